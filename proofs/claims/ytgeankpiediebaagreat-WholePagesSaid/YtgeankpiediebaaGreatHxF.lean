/-
  A fast symbolic executor for the model's code, proved right: part F.
-/
import Derived.Test.YtgeankpiediebaaGreatHxE
noncomputable section
namespace Go.Fx
set_option linter.unusedSimpArgs false
set_option linter.unusedVariables false
set_option linter.unusedSectionVars false

/-! ### Texts of states -/
/-- a row of eight bytes -/
def r8 (a b c d e f g h : Nat) : List C := [.u8 a, .u8 b, .u8 c, .u8 d, .u8 e, .u8 f, .u8 g, .u8 h]
def trOf {α : Type} (l : List (Nat × α)) : Tr α := List.rec (motive := fun _ => Tr α) .e (fun h _ ih => Tr.set (pa h.1) h.2 ih) l
def hpOf (l : List (Pa × Blk)) : Tr Blk := List.rec (motive := fun _ => Tr Blk) .e (fun h _ ih => Tr.set h.1 h.2 ih) l
def outV (o : Out) : V := match o with | .ret v => v | .pan c => .c c

/-! ### Alike -/
def eqL {α : Type} (f : α → α → Bool) (l : List α) : List α → Bool :=
  List.rec (motive := fun _ => List α → Bool) (fun m => List.rec (motive := fun _ => Bool) true (fun _ _ _ => false) m)
    (fun a _ ih m => List.rec (motive := fun _ => Bool) false (fun b t _ => Bool.rec (motive := fun _ => Bool) false (ih t) (f a b)) m) l
theorem eqL_eq {α : Type} {f : α → α → Bool} (hf : ∀ a b, f a b = true → a = b) : ∀ {l m : List α}, eqL f l m = true → l = m
  | [], [], _ => rfl
  | [], _ :: _, h => by cases h
  | _ :: _, [], h => by cases h
  | a :: l, b :: m, h => by
    have h : (Bool.rec (motive := fun _ => Bool) false (eqL f l m) (f a b) : Bool) = true := h
    cases hb : f a b with
    | false => rw [hb] at h; cases h
    | true => rw [hb] at h; rw [hf a b hb, eqL_eq hf h]
def litE : Value → Value → Bool
  | .tuple ⟨[]⟩, .tuple ⟨[]⟩ => true
  | a, b => eqZ a b
theorem litE_eq {a b : Value} (h : litE a b = true) : a = b := by
  unfold litE at h
  split at h
  · rfl
  · exact eqZ_eq h
def byE : By → By → Bool
  | .l a, .l b => Nat.beq a b
  | .v a, .v b => SE.beq a b
  | _, _ => false
theorem byE_eq (a b : By) (h : byE a b = true) : a = b := by
  cases a <;> cases b <;> simp only [byE] at h
  · rw [Nat.eq_of_beq_eq_true h]
  · cases h
  · cases h
  · rw [SE.beq_eq h]
def capE (a b : Pa × Nat) : Bool := Pa.beq a.1 b.1 && Nat.beq a.2 b.2
theorem capE_eq (a b : Pa × Nat) (h : capE a b = true) : a = b := by
  unfold capE at h
  rw [Bool.and_eq_true] at h
  obtain ⟨a1, a2⟩ := a
  obtain ⟨b1, b2⟩ := b
  have h1 : a1 = b1 := Pa.beq_true h.1
  have h2 : a2 = b2 := Nat.eq_of_beq_eq_true h.2
  rw [h1, h2]
theorem boolEq_t {a b : Bool} (h : boolEq a b = true) : a = b := by cases a <;> cases b <;> first | rfl | cases h
def C.same : C → C → Bool
  | .u8 a, .u8 b => Nat.beq a b
  | .u32 a, .u32 b => Nat.beq a b
  | .u64 a, .u64 b => Nat.beq a b
  | .i64 a, .i64 b => iEq a b
  | .i32 a, .i32 b => iEq a b
  | .bool a, .bool b => boolEq a b
  | .str a, .str b => eqL byE a b
  | .ptr a i, .ptr b j => Pa.beq a b && Nat.beq i j
  | .slc a i l c, .slc b j m d => Pa.beq a b && (Nat.beq i j && (Nat.beq l m && Nat.beq c d))
  | .slu a i l c, .slu b j m d => Pa.beq a b && (Nat.beq i j && (Nat.beq l m && Nat.beq c d))
  | .clo f l, .clo g m => Nat.beq f g && eqL capE l m
  | .mp a, .mp b => Pa.beq a b
  | .lit a, .lit b => litE a b
  | .ivar k a, .ivar j b => kEq k j && SE.beq a b
  | .bvar a g, .bvar b h => SE.beq a b && boolEq g h
  | _, _ => false
theorem nbq {a b : Nat} (h : Nat.beq a b = true) : a = b := Nat.eq_of_beq_eq_true h
theorem C.same_eq (a b : C) (h : C.same a b = true) : a = b := by
  cases a <;> cases b <;> simp only [C.same, Bool.and_eq_true] at h <;> try cases h
  case u8 => rw [nbq h]
  case u32 => rw [nbq h]
  case u64 => rw [nbq h]
  case i64 => rw [iEq_eq h]
  case i32 => rw [iEq_eq h]
  case bool => rw [boolEq_t h]
  case str => rw [eqL_eq byE_eq h]
  case ptr => rename_i h1 h2; rw [Pa.beq_true h1, nbq h2]
  case slc => rename_i h1 h2; rw [Pa.beq_true h1, nbq h2.1, nbq h2.2.1, nbq h2.2.2]
  case slu => rename_i h1 h2; rw [Pa.beq_true h1, nbq h2.1, nbq h2.2.1, nbq h2.2.2]
  case clo => rename_i h1 h2; rw [nbq h1, eqL_eq capE_eq h2]
  case mp => rw [Pa.beq_true h]
  case lit => rw [litE_eq h]
  case ivar => rename_i h1 h2; rw [kEq_eq h1, SE.beq_eq h2]
  case bvar => rename_i h1 h2; rw [SE.beq_eq h1, boolEq_t h2]
def W.same : W → W → Bool
  | .c x, .c y => C.same x y
  | .a l, .a m => eqL C.same l m
  | _, _ => false
theorem W.same_eq (a b : W) (h : W.same a b = true) : a = b := by
  cases a <;> cases b <;> simp only [W.same] at h <;> try cases h
  · rw [C.same_eq _ _ h]
  · rw [eqL_eq C.same_eq h]
def V.same : V → V → Bool
  | .c x, .c y => C.same x y
  | .a l, .a m => eqL C.same l m
  | .t l, .t m => eqL W.same l m
  | _, _ => false
theorem V.same_eq (a b : V) (h : V.same a b = true) : a = b := by
  cases a <;> cases b <;> simp only [V.same] at h <;> try cases h
  · rw [C.same_eq _ _ h]
  · rw [eqL_eq C.same_eq h]
  · rw [eqL_eq W.same_eq h]
def perE (a b : Nat × C) : Bool := Nat.beq a.1 b.1 && C.same a.2 b.2
theorem perE_eq (a b : Nat × C) (h : perE a b = true) : a = b := by
  unfold perE at h
  rw [Bool.and_eq_true] at h
  obtain ⟨a1, a2⟩ := a
  obtain ⟨b1, b2⟩ := b
  have h1 : a1 = b1 := nbq h.1
  have h2 : a2 = b2 := C.same_eq _ _ h.2
  rw [h1, h2]
def Dz.same : Dz → Dz → Bool
  | .con l, .con m => eqL C.same l m
  | .per l p, .per m q => Nat.beq p q && eqL perE l m
  | _, _ => false
theorem Dz.same_eq (a b : Dz) (h : Dz.same a b = true) : a = b := by
  cases a <;> cases b <;> simp only [Dz.same, Bool.and_eq_true] at h <;> try cases h
  · rw [eqL_eq C.same_eq h]
  · rename_i h1 h2; rw [nbq h1, eqL_eq perE_eq h2]
def optE {α : Type} (f : α → α → Bool) (a b : Option α) : Bool :=
  Option.rec (motive := fun _ => Bool) (Option.rec (motive := fun _ => Bool) true (fun _ => false) b) (fun x => Option.rec (motive := fun _ => Bool) false (fun y => f x y) b) a
theorem optE_eq {α : Type} {f : α → α → Bool} (hf : ∀ a b, f a b = true → a = b) {a b : Option α} (h : optE f a b = true) : a = b := by
  cases a <;> cases b
  · rfl
  · cases h
  · cases h
  · rename_i x y
    have h : f x y = true := h
    rw [hf _ _ h]
/-- the same trie -/
def Tr.same {α : Type} (f : α → α → Bool) (s : Tr α) : Tr α → Bool :=
  Tr.rec (motive := fun _ => Tr α → Bool) (fun t => Tr.rec (motive := fun _ => Bool) true (fun _ _ _ _ _ _ _ _ _ _ _ _ _ _ _ _ _ => false) t)
    (fun v _ _ _ _ _ _ _ _ i0 i1 i2 i3 i4 i5 i6 i7 t => Tr.rec (motive := fun _ => Bool) false (fun w d0 d1 d2 d3 d4 d5 d6 d7 _ _ _ _ _ _ _ _ =>
      optE f v w && (i0 d0 && (i1 d1 && (i2 d2 && (i3 d3 && (i4 d4 && (i5 d5 && (i6 d6 && i7 d7)))))))) t) s
theorem Tr.same_eq {α : Type} {f : α → α → Bool} (hf : ∀ a b, f a b = true → a = b) : ∀ {s t : Tr α}, Tr.same f s t = true → s = t
  | .e, .e, _ => rfl
  | .e, .n .., h => by cases h
  | .n .., .e, h => by cases h
  | .n v c0 c1 c2 c3 c4 c5 c6 c7, .n w d0 d1 d2 d3 d4 d5 d6 d7, h => by
    have h : (optE f v w && (Tr.same f c0 d0 && (Tr.same f c1 d1 && (Tr.same f c2 d2 && (Tr.same f c3 d3 && (Tr.same f c4 d4 && (Tr.same f c5 d5 && (Tr.same f c6 d6 && Tr.same f c7 d7)))))))) = true := h
    simp only [Bool.and_eq_true] at h
    obtain ⟨h0, h1, h2, h3, h4, h5, h6, h7, h8⟩ := h
    rw [optE_eq hf h0, Tr.same_eq hf h1, Tr.same_eq hf h2, Tr.same_eq hf h3, Tr.same_eq hf h4, Tr.same_eq hf h5, Tr.same_eq hf h6, Tr.same_eq hf h7, Tr.same_eq hf h8]
def entE (a b : W × W) : Bool := W.same a.1 b.1 && W.same a.2 b.2
theorem entE_eq (a b : W × W) (h : entE a b = true) : a = b := by
  unfold entE at h
  rw [Bool.and_eq_true] at h
  obtain ⟨a1, a2⟩ := a
  obtain ⟨b1, b2⟩ := b
  have h1 : a1 = b1 := W.same_eq _ _ h.1
  have h2 : a2 = b2 := W.same_eq _ _ h.2
  rw [h1, h2]
def Blk.same : Blk → Blk → Bool
  | .ce t n l, .ce t' n' l' => Nat.beq t t' && (Nat.beq n n' && eqL C.same l l')
  | .ro t s n d o m, .ro t' s' n' d' o' m' => Nat.beq t t' && (Nat.beq s s' && (Nat.beq n n' && (Dz.same d d' && (boolEq m m' && Tr.same (eqL C.same) o o'))))
  | .mp l, .mp l' => eqL entE l l'
  | .ml b l, .ml b' l' => Pa.beq b b' && eqL entE l l'
  | .it b j, .it b' j' => Pa.beq b b' && optE Nat.beq j j'
  | _, _ => false
theorem Blk.same_eq (a b : Blk) (h : Blk.same a b = true) : a = b := by
  cases a <;> cases b <;> simp only [Blk.same, Bool.and_eq_true] at h <;> try cases h
  case ce => rename_i h1 h2; rw [nbq h1, nbq h2.1, eqL_eq C.same_eq h2.2]
  case ro => rename_i h1 h2; rw [nbq h1, nbq h2.1, nbq h2.2.1, Dz.same_eq _ _ h2.2.2.1, boolEq_t h2.2.2.2.1, Tr.same_eq (fun _ _ q => eqL_eq C.same_eq q) h2.2.2.2.2]
  case mp => rw [eqL_eq entE_eq h]
  case ml => rename_i h1 h2; rw [Pa.beq_true h1, eqL_eq entE_eq h2]
  case it => rename_i h1 h2; rw [Pa.beq_true h1, optE_eq (fun _ _ q => nbq q) h2]

/-! ### What is told holds -/
/-- all of s is in t -/
def Tr.le {α : Type} (f : α → α → Bool) (s : Tr α) : Tr α → Bool :=
  Tr.rec (motive := fun _ => Tr α → Bool) (fun _ => true)
    (fun v _ _ _ _ _ _ _ _ i0 i1 i2 i3 i4 i5 i6 i7 t => Tr.rec (motive := fun _ => Bool) false (fun w d0 d1 d2 d3 d4 d5 d6 d7 _ _ _ _ _ _ _ _ =>
      Option.rec (motive := fun _ => Bool) true (fun _ => optE f v w) v && (i0 d0 && (i1 d1 && (i2 d2 && (i3 d3 && (i4 d4 && (i5 d5 && (i6 d6 && i7 d7)))))))) t) s
theorem Tr.le_get {α : Type} {f : α → α → Bool} (hf : ∀ a b, f a b = true → a = b) : ∀ {s t : Tr α}, Tr.le f s t = true → ∀ (p : Pa) (x : α), Tr.get p s = some x → Tr.get p t = some x
  | .e, t, _, p, x, h => by rw [Tr.get_e] at h; cases h
  | .n .., .e, h, _, _, _ => by cases h
  | .n v c0 c1 c2 c3 c4 c5 c6 c7, .n w d0 d1 d2 d3 d4 d5 d6 d7, h, p, x, hx => by
    have h : (Option.rec (motive := fun _ => Bool) true (fun _ => optE f v w) v && (Tr.le f c0 d0 && (Tr.le f c1 d1 && (Tr.le f c2 d2 && (Tr.le f c3 d3 && (Tr.le f c4 d4 && (Tr.le f c5 d5 && (Tr.le f c6 d6 && Tr.le f c7 d7)))))))) = true := h
    simp only [Bool.and_eq_true] at h
    obtain ⟨h0, h1, h2, h3, h4, h5, h6, h7, h8⟩ := h
    cases p with
    | e =>
      have hx : v = some x := hx
      subst hx
      have h0 : optE f (some x) w = true := h0
      have := optE_eq hf h0
      exact this.symm
    | d q p =>
      cases q with
      | d0 => exact (Tr.le_get hf h1 p x hx : Tr.get p d0 = some x)
      | d1 => exact (Tr.le_get hf h2 p x hx : Tr.get p d1 = some x)
      | d2 => exact (Tr.le_get hf h3 p x hx : Tr.get p d2 = some x)
      | d3 => exact (Tr.le_get hf h4 p x hx : Tr.get p d3 = some x)
      | d4 => exact (Tr.le_get hf h5 p x hx : Tr.get p d4 = some x)
      | d5 => exact (Tr.le_get hf h6 p x hx : Tr.get p d5 = some x)
      | d6 => exact (Tr.le_get hf h7 p x hx : Tr.get p d6 = some x)
      | d7 => exact (Tr.le_get hf h8 p x hx : Tr.get p d7 = some x)
def facE (a b : SE × Bool) : Bool := SE.beq a.1 b.1 && boolEq a.2 b.2
def hasF (x : SE × Bool) (l : List (SE × Bool)) : Bool := List.rec (motive := fun _ => Bool) false (fun h _ ih => Bool.rec (motive := fun _ => Bool) ih true (facE x h)) l
theorem hasF_mem {x : SE × Bool} : ∀ {l : List (SE × Bool)}, hasF x l = true → x ∈ l
  | [], h => by cases h
  | y :: l, h => by
    have h : (Bool.rec (motive := fun _ => Bool) (hasF x l) true (facE x y) : Bool) = true := h
    cases hb : facE x y with
    | true =>
      unfold facE at hb
      rw [Bool.and_eq_true] at hb
      obtain ⟨x1, x2⟩ := x
      obtain ⟨y1, y2⟩ := y
      have e1 : x1 = y1 := SE.beq_eq hb.1
      have e2 : x2 = y2 := boolEq_t hb.2
      rw [e1, e2]; exact List.mem_cons_self
    | false =>
      rw [hb] at h
      exact List.mem_cons_of_mem _ (hasF_mem h)
/-- st holds what S tells -/
structure Sub (S st : St) : Prop where
  hp : ∀ p B, S.hp p = some B → st.hp p = some B
  nb : S.nb = st.nb
  bf : ∀ x ∈ S.bf, x ∈ st.bf
def holdsS (S st : St) : Bool := Pa.beq S.nb st.nb && (allL (fun x => hasF x st.bf) S.bf && Tr.le Blk.same S.heap st.heap)
theorem holdsS_ok {S st : St} (h : holdsS S st = true) : Sub S st := by
  unfold holdsS at h
  simp only [Bool.and_eq_true] at h
  obtain ⟨h1, h2, h3⟩ := h
  rw [allL_eq, List.all_eq_true] at h2
  exact ⟨fun p B hB => Tr.le_get Blk.same_eq h3 p B hB, Pa.beq_true h1, fun x hx => hasF_mem (h2 x hx)⟩
theorem Sub.facts {ρ : Env} {S st : St} (h : Sub S st) (hf : Facts ρ st) : Facts ρ S :=
  ⟨fun x b hx => hf.bf x b (h.bf _ hx), fun id k hk => by rw [h.nb]; exact hf.tidy id k (h.hp _ _ hk)⟩
end Go.Fx
end

noncomputable section
namespace Go.Fx
set_option linter.unusedSimpArgs false
set_option linter.unusedVariables false
set_option linter.unusedSectionVars false

/-! ### The paths of a trie -/
def consK {α : Type} (v : Option α) (l : List Pa) : List Pa := Option.rec (motive := fun _ => List Pa) l (fun _ => .e :: l) v
def downK (x : D8) (l m : List Pa) : List Pa := List.rec (motive := fun _ => List Pa) m (fun p _ ih => .d x p :: ih) l
def keysT {α : Type} (t : Tr α) : List Pa :=
  Tr.rec (motive := fun _ => List Pa) [] (fun v _ _ _ _ _ _ _ _ i0 i1 i2 i3 i4 i5 i6 i7 => consK v (downK .d0 i0 (downK .d1 i1 (downK .d2 i2 (downK .d3 i3 (downK .d4 i4 (downK .d5 i5 (downK .d6 i6 (downK .d7 i7 [])))))))))
    t
theorem mem_downK {x : D8} {p : Pa} : ∀ {l m : List Pa}, p ∈ downK x l m ↔ (∃ q ∈ l, p = .d x q) ∨ p ∈ m
  | [], m => by
    show p ∈ m ↔ _
    simp
  | q :: l, m => by
    show p ∈ Pa.d x q :: downK x l m ↔ _
    rw [List.mem_cons, mem_downK]
    constructor
    · rintro (h | ⟨r, h, e⟩ | h)
      · exact .inl ⟨q, List.mem_cons_self, h⟩
      · exact .inl ⟨r, List.mem_cons_of_mem _ h, e⟩
      · exact .inr h
    · rintro (⟨r, h, e⟩ | h)
      · rcases List.mem_cons.1 h with rfl | h
        · exact .inl e
        · exact .inr (.inl ⟨r, h, e⟩)
      · exact .inr (.inr h)
theorem mem_keysT {α : Type} : ∀ {t : Tr α} {p : Pa}, p ∈ keysT t ↔ Tr.get p t ≠ none
  | .e, p => by
    rw [Tr.get_e]
    show p ∈ ([] : List Pa) ↔ _
    simp
  | .n v c0 c1 c2 c3 c4 c5 c6 c7, p => by
    have e : keysT (Tr.n v c0 c1 c2 c3 c4 c5 c6 c7) = consK v (downK .d0 (keysT c0) (downK .d1 (keysT c1) (downK .d2 (keysT c2) (downK .d3 (keysT c3) (downK .d4 (keysT c4) (downK .d5 (keysT c5) (downK .d6 (keysT c6) (downK .d7 (keysT c7) [])))))))) := rfl
    have hc : ∀ l, p ∈ consK v l ↔ (p = .e ∧ v ≠ none) ∨ p ∈ l := fun l => by
      cases v with
      | none =>
        show p ∈ l ↔ _
        simp
      | some x =>
        show p ∈ Pa.e :: l ↔ _
        simp
    rw [e, hc]
    simp only [mem_downK, List.not_mem_nil, or_false]
    cases p with
    | e =>
      constructor
      · rintro (h | ⟨q, _, h⟩ | ⟨q, _, h⟩ | ⟨q, _, h⟩ | ⟨q, _, h⟩ | ⟨q, _, h⟩ | ⟨q, _, h⟩ | ⟨q, _, h⟩ | ⟨q, _, h⟩)
        · exact h.2
        all_goals cases h
      · exact fun h => .inl ⟨rfl, h⟩
    | d x q =>
      cases x
      · constructor
        · rintro (h | ⟨r, m, h⟩ | ⟨r, _, h⟩ | ⟨r, _, h⟩ | ⟨r, _, h⟩ | ⟨r, _, h⟩ | ⟨r, _, h⟩ | ⟨r, _, h⟩ | ⟨r, _, h⟩)
          · cases h.1
          · cases h; exact (mem_keysT (t := c0)).1 m
          all_goals cases h
        · exact fun h => .inr (.inl ⟨q, (mem_keysT (t := c0)).2 h, rfl⟩)
      · constructor
        · rintro (h | ⟨r, m, h⟩ | ⟨r, m, h⟩ | ⟨r, _, h⟩ | ⟨r, _, h⟩ | ⟨r, _, h⟩ | ⟨r, _, h⟩ | ⟨r, _, h⟩ | ⟨r, _, h⟩)
          · cases h.1
          · cases h
          · cases h; exact (mem_keysT (t := c1)).1 m
          all_goals cases h
        · exact fun h => .inr (.inr (.inl ⟨q, (mem_keysT (t := c1)).2 h, rfl⟩))
      · constructor
        · rintro (h | ⟨r, m, h⟩ | ⟨r, m, h⟩ | ⟨r, m, h⟩ | ⟨r, _, h⟩ | ⟨r, _, h⟩ | ⟨r, _, h⟩ | ⟨r, _, h⟩ | ⟨r, _, h⟩)
          · cases h.1
          · cases h
          · cases h
          · cases h; exact (mem_keysT (t := c2)).1 m
          all_goals cases h
        · exact fun h => .inr (.inr (.inr (.inl ⟨q, (mem_keysT (t := c2)).2 h, rfl⟩)))
      · constructor
        · rintro (h | ⟨r, m, h⟩ | ⟨r, m, h⟩ | ⟨r, m, h⟩ | ⟨r, m, h⟩ | ⟨r, _, h⟩ | ⟨r, _, h⟩ | ⟨r, _, h⟩ | ⟨r, _, h⟩)
          · cases h.1
          · cases h
          · cases h
          · cases h
          · cases h; exact (mem_keysT (t := c3)).1 m
          all_goals cases h
        · exact fun h => .inr (.inr (.inr (.inr (.inl ⟨q, (mem_keysT (t := c3)).2 h, rfl⟩))))
      · constructor
        · rintro (h | ⟨r, m, h⟩ | ⟨r, m, h⟩ | ⟨r, m, h⟩ | ⟨r, m, h⟩ | ⟨r, m, h⟩ | ⟨r, _, h⟩ | ⟨r, _, h⟩ | ⟨r, _, h⟩)
          · cases h.1
          · cases h
          · cases h
          · cases h
          · cases h
          · cases h; exact (mem_keysT (t := c4)).1 m
          all_goals cases h
        · exact fun h => .inr (.inr (.inr (.inr (.inr (.inl ⟨q, (mem_keysT (t := c4)).2 h, rfl⟩)))))
      · constructor
        · rintro (h | ⟨r, m, h⟩ | ⟨r, m, h⟩ | ⟨r, m, h⟩ | ⟨r, m, h⟩ | ⟨r, m, h⟩ | ⟨r, m, h⟩ | ⟨r, _, h⟩ | ⟨r, _, h⟩)
          · cases h.1
          · cases h
          · cases h
          · cases h
          · cases h
          · cases h
          · cases h; exact (mem_keysT (t := c5)).1 m
          all_goals cases h
        · exact fun h => .inr (.inr (.inr (.inr (.inr (.inr (.inl ⟨q, (mem_keysT (t := c5)).2 h, rfl⟩))))))
      · constructor
        · rintro (h | ⟨r, m, h⟩ | ⟨r, m, h⟩ | ⟨r, m, h⟩ | ⟨r, m, h⟩ | ⟨r, m, h⟩ | ⟨r, m, h⟩ | ⟨r, m, h⟩ | ⟨r, _, h⟩)
          · cases h.1
          · cases h
          · cases h
          · cases h
          · cases h
          · cases h
          · cases h
          · cases h; exact (mem_keysT (t := c6)).1 m
          all_goals cases h
        · exact fun h => .inr (.inr (.inr (.inr (.inr (.inr (.inr (.inl ⟨q, (mem_keysT (t := c6)).2 h, rfl⟩)))))))
      · constructor
        · rintro (h | ⟨r, m, h⟩ | ⟨r, m, h⟩ | ⟨r, m, h⟩ | ⟨r, m, h⟩ | ⟨r, m, h⟩ | ⟨r, m, h⟩ | ⟨r, m, h⟩ | ⟨r, m, h⟩)
          · cases h.1
          · cases h
          · cases h
          · cases h
          · cases h
          · cases h
          · cases h
          · cases h
          · cases h; exact (mem_keysT (t := c7)).1 m
        · exact fun h => .inr (.inr (.inr (.inr (.inr (.inr (.inr (.inr ⟨q, (mem_keysT (t := c7)).2 h, rfl⟩)))))))

/-! ### What is laid over a state -/
inductive DB where
  | blk (B : Blk)
  | put (off : Nat) (cs : List C)
  | del
def DB.app (d : DB) (o : Option Blk) : Option Blk :=
  match d with
  | .blk B => some B
  | .put off cs => (match o with
    | some b => Blk.puts b off (len cs) cs
    | none => none)
  | .del => none
def overH (l : List (Pa × DB)) (h : Tr Blk) : Tr Blk := List.rec (motive := fun _ => Tr Blk) h (fun x _ ih => Tr.upd (DB.app x.2 (Tr.get x.1 ih)) x.1 ih) l
def overB (l : List (Pa × DB)) (p : Pa) (o : Option Blk) : Option Blk := l.foldr (fun x ih => if p = x.1 then DB.app x.2 ih else ih) o
theorem overH_get : ∀ (l : List (Pa × DB)) (h : Tr Blk) (p : Pa), Tr.get p (overH l h) = overB l p (Tr.get p h)
  | [], h, p => rfl
  | x :: l, h, p => by
    show Tr.get p (Tr.upd (DB.app x.2 (Tr.get x.1 (overH l h))) x.1 (overH l h)) = if p = x.1 then DB.app x.2 (overB l p (Tr.get p h)) else overB l p (Tr.get p h)
    rw [Tr.get_upd, overH_get l h p, overH_get l h x.1]
    by_cases hp : p = x.1
    · rw [if_pos hp, if_pos hp, hp]
    · rw [if_neg hp, if_neg hp]
theorem overB_out : ∀ {l : List (Pa × DB)} {p : Pa}, (∀ x ∈ l, x.1 ≠ p) → ∀ o, overB l p o = o
  | [], p, _, o => rfl
  | x :: l, p, h, o => by
    show (if p = x.1 then _ else overB l p o) = o
    rw [if_neg fun e => h x List.mem_cons_self e.symm, overB_out (fun y hy => h y (List.mem_cons_of_mem _ hy))]
/-- the state behind a cut -/
def St.then (l : List (Pa × DB)) (nb : Pa) (S : St) : St := { S with heap := overH l S.heap, nb := nb }
/-- the same, in a larger state -/
def overS (l : List (Pa × DB)) (nb : Pa) (keys : List Pa) (st : St) : St := { st with heap := overH l st.heap, nb := nb, wr := ap keys st.wr }

section
variable (P : Program)
/-- what a call leaves: as Post, of what S' tells alone -/
structure Post2 (ρ : Env) (ι : Loc) (A : Pa → Prop) (S : St) (w : World) (ι' : Loc) (S' : St) (w' : World) : Prop where
  alike : Loc.alike (fun i => i.num < S.nb.num) ι ι'
  rep : Rep P ρ ι' A S'.hp S'.nb w'
  os : w'.os = w.os
  tape : w'.tape = w.tape
  output : w'.output = w.output
  size : w.heap.size ≤ w'.heap.size
  same : ∀ b, b < w.heap.size → (∀ id k, S.hp id = some k → ι.blk id ≠ b) → w'.heap[b]? = w.heap[b]?
  fresh : ∀ id, S.nb.num ≤ id.num → id.num < S'.nb.num → w.heap.size ≤ ι'.blk id ∨ ∃ id0 k, S.hp id0 = some k ∧ ι.blk id0 = ι'.blk id
/-- from S a call comes to S' -/
structure CTo (ρ : Env) (g : Nat) (args : List V) (S : St) (out : Out) (S' : St) : Prop where
  nb : S.nb.num ≤ S'.nb.num
  tidy : Tidy S'
  dom : ∀ id, id.num < S.nb.num → S.hp id = none → S'.hp id = none
  enter : ∀ as w, (callFunc g as).run P w = .ok (.enter g as) w
  run : ∀ A ι w, (∀ id : Pa, S.nb.num ≤ id.num → id.num < S'.nb.num → A id) → Rep P ρ ι A S.hp S.nb w → (∀ x ∈ args, x.on ι (lim S.nb A)) →
    Calls P g (args.map (V.den ρ ι)).toArray w fun e w' => ∃ ι', e = outEnd ρ ι' out ∧ Post2 P ρ ι A S w ι' S' w' ∧ out.on ι' (lim S'.nb A)
end
section
variable {P : Program} {ρ : Env} {R : V → Prop}
theorem Rep.sub {ι : Loc} {A : Pa → Prop} {S st : St} {w : World} (hs : Sub S st) (h : Rep P ρ ι A st.hp st.nb w) : Rep P ρ ι A S.hp S.nb w where
  lt := fun id k hk => by rw [hs.nb]; exact h.lt id k (hs.hp id k hk)
  blk := fun id k hk => h.blk id k (hs.hp id k hk)
  on := fun id k hk => by rw [hs.nb]; exact h.on id k (hs.hp id k hk)
  inj := fun id id' k k' hk hk' he => h.inj id id' k k' (hs.hp id k hk) (hs.hp id' k' hk') he
theorem Post2.of {ι : Loc} {A : Pa → Prop} {S st' S' : St} {w w' : World} {ι' : Loc} (hs : Sub S' st') (h : Post P ρ ι A S w ι' st' w') : Post2 P ρ ι A S w ι' S' w' :=
  ⟨h.alike, h.rep.sub hs, h.os, h.tape, h.output, h.size, h.same, fun id h1 h2 => h.fresh id h1 (by rw [← hs.nb]; exact h2)⟩
def outE : Out → Out → Bool
  | .ret a, .ret b => V.same a b
  | .pan a, .pan b => C.same a b
  | _, _ => false
theorem outE_eq {a b : Out} (h : outE a b = true) : a = b := by
  cases a <;> cases b <;> simp only [outE] at h <;> try cases h
  · rw [V.same_eq _ _ h]
  · rw [C.same_eq _ _ h]
/-- is it out, and does the state hold what S' tells? -/
def chkO (out : Out) (S' : St) (o : Out) (st : St) : Ans := bif outE out o && holdsS S' st then .good else .stop 900 ""
theorem chkO_ok {out o : Out} {S' st : St} (h : Ok ρ R (chkO out S' o st)) : o = out ∧ Sub S' st := by
  unfold chkO at h
  obtain ⟨h, _⟩ := ok_bif h
  rw [Bool.and_eq_true] at h
  exact ⟨(outE_eq h.1).symm, holdsS_ok h.2⟩
/-- A run that is cut at a call. -/
theorem cut_call {X : XC} (hX : XOk P X) (hI : IntrOk P ρ R X) (hmix : P.follows .mixedOrders = true) {d g : Nat} {args : List V} {S S' : St} {out : Out} (hf : Facts ρ S) (h : Ok ρ R (callN X d g args S (chkO out S'))) : CTo P ρ g args S out S' := by
  obtain ⟨o, st, h1, hen, h2⟩ := callN_ok hX hI hmix d g args S _ hf h
  obtain ⟨rfl, hs⟩ := chkO_ok h1
  have hle := h2.1
  have hnb : S'.nb = st.nb := hs.nb
  refine ⟨by rw [hnb]; exact hle.nb, fun id k hk => by rw [hnb]; exact (hle.facts hf).tidy id k (hs.hp id k hk), fun id hid hn => ?_, hen, fun A ι w hA hr hin => ?_⟩
  · cases hk : S'.hp id with
    | none => rfl
    | some k =>
      have := hs.hp id k hk
      rw [hle.dom id hid hn] at this
      cases this
  · refine (h2.2 A ι w (fun id p q => hA id p (by rw [hnb]; exact q)) hr hin).mono fun e w' hh => ?_
    obtain ⟨ι', he, hp, hon⟩ := hh
    exact ⟨ι', he, Post2.of hs hp, by rw [hnb]; exact hon⟩

/-- What was done from S is done from each state that holds what S tells. -/
theorem over_ok {g : Nat} {args : List V} {S st : St} {out : Out} {l : List (Pa × DB)} {nb : Pa} (h : CTo P ρ g args S out (S.then l nb)) (hs : Sub S st) (hf : Facts ρ st)
    (hl : ∀ x ∈ l, S.hp x.1 ≠ none ∨ S.nb.num ≤ x.1.num) : CStep P ρ g args st out (overS l nb (keysT S.heap) st) := by
  have hnb : st.nb = S.nb := hs.nb.symm
  have hk : ∀ id, id ∈ keysT S.heap ↔ S.hp id ≠ none := fun id => mem_keysT
  have hpS : ∀ p, (S.then l nb).hp p = overB l p (S.hp p) := fun p => overH_get l S.heap p
  have hpT : ∀ p, (overS l nb (keysT S.heap) st).hp p = overB l p (st.hp p) := fun p => overH_get l st.heap p
  -- of it
  have inS : ∀ p, (S.hp p ≠ none ∨ S.nb.num ≤ p.num) → (overS l nb (keysT S.heap) st).hp p = (S.then l nb).hp p := by
    intro p hp
    rw [hpS, hpT]
    cases hq : S.hp p with
    | some B => rw [hs.hp p B hq]
    | none =>
      have hp : S.nb.num ≤ p.num := hp.resolve_left fun q => q hq
      cases ht : st.hp p with
      | none => rfl
      | some B => exact absurd (hf.tidy p B ht) (by rw [hnb]; omega)
  have outS : ∀ p, S.hp p = none → p.num < S.nb.num → (overS l nb (keysT S.heap) st).hp p = st.hp p := by
    intro p h1 h2
    rw [hpT]
    refine overB_out (fun x hx he => ?_) _
    subst he
    rcases hl x hx with q | q
    · exact q h1
    · omega
  have cases' : ∀ p, (S.hp p ≠ none ∨ S.nb.num ≤ p.num) ∨ (S.hp p = none ∧ p.num < S.nb.num) := by
    intro p
    by_cases q : S.hp p = none
    · by_cases q2 : p.num < S.nb.num
      · exact .inr ⟨q, q2⟩
      · exact .inl (.inr (by omega))
    · exact .inl (.inl q)
  have hnb2 : (overS l nb (keysT S.heap) st).nb = (S.then l nb).nb := rfl
  have hwr : (overS l nb (keysT S.heap) st).wr = keysT S.heap ++ st.wr := ap_eq _ _
  refine ⟨⟨by rw [hnb]; exact h.nb, ⟨_, hwr, fun id hid hn => ?_, fun id hid hlt => ?_⟩, fun id hid hn => ?_, fun hf2 => ⟨hf2.bf, fun id k hk2 => ?_⟩⟩, fun A ι w hA hr hin => ?_⟩
  · refine outS id ?_ (by rw [← hnb]; exact hid)
    cases hq : S.hp id with
    | none => rfl
    | some B => exact absurd ((hk id).2 (by rw [hq]; exact fun q => by cases q)) hn
  · have := (hk id).1 hid
    cases hq : S.hp id with
    | none => exact absurd hq this
    | some B => rw [hs.hp id B hq]; exact fun q => by cases q
  · have hq : S.hp id = none := by
      cases hq : S.hp id with
      | none => rfl
      | some B => rw [hs.hp id B hq] at hn; cases hn
    rw [outS id hq (by rw [← hnb]; exact hid), hn]
  · rcases cases' id with q | ⟨q1, q2⟩
    · rw [inS id q] at hk2
      exact h.tidy id k hk2
    · exact Nat.lt_of_lt_of_le q2 h.nb
  · have hrS := hr.sub hs
    refine (h.run A ι w (fun id p q => hA id (by rw [hnb]; exact p) q) hrS (by rw [← hnb]; exact hin)).mono fun e w' hh => ?_
    obtain ⟨ι', he, hp, hon⟩ := hh
    -- a block that isn't of it stays
    have stay : ∀ id k, st.hp id = some k → S.hp id = none → w'.heap[ι.blk id]? = w.heap[ι.blk id]? := by
      intro id k h1 h2
      refine hp.same _ (hr.size h1) fun id0 k0 h3 h4 => ?_
      have := hr.inj id0 id k0 k (hs.hp id0 k0 h3) h1 h4
      subst this
      rw [h2] at h3; cases h3
    refine ⟨ι', he, ?_, hon⟩
    have hrep : Rep P ρ ι' A (overS l nb (keysT S.heap) st).hp (overS l nb (keysT S.heap) st).nb w' := by
      refine ⟨fun id k hk2 => ?_, fun id k hk2 => ?_, fun id k hk2 => ?_, fun id id' k k' hk2 hk2' he2 => ?_⟩
      · rcases cases' id with q | ⟨q1, q2⟩
        · rw [inS id q] at hk2
          exact hp.rep.lt id k hk2
        · rw [outS id q1 q2] at hk2
          exact ⟨Nat.lt_of_lt_of_le q2 h.nb, (hr.lt id k hk2).2⟩
      · rcases cases' id with q | ⟨q1, q2⟩
        · rw [inS id q] at hk2
          exact hp.rep.blk id k hk2
        · rw [outS id q1 q2] at hk2
          rw [(hp.alike id q2).1, stay id k hk2 q1]
          refine BlkAt.alike (A := fun i => i.num < S.nb.num) hp.alike q2 (Blk.on_mono (fun i hi => ?_) (hr.on id k hk2)) (hr.blk id k hk2)
          have := hi.1
          rw [hnb] at this
          exact this
      · rcases cases' id with q | ⟨q1, q2⟩
        · rw [inS id q] at hk2
          exact hp.rep.on id k hk2
        · rw [outS id q1 q2] at hk2
          have h1 := hr.on id k hk2
          rw [hnb] at h1
          exact Blk.on_mono (lim_mono h.nb) (Blk.on_alike (A := lim S.nb A) (fun i hi => hp.alike i hi.1) h1)
      · -- two blocks at one place
        have mixed : ∀ a b ka kb, (S.hp a ≠ none ∨ S.nb.num ≤ a.num) → (S.hp b = none ∧ b.num < S.nb.num) → (S.then l nb).hp a = some ka → st.hp b = some kb → ι'.blk a = ι'.blk b → a = b := by
          intro a b ka kb qa qb ha hb hab
          rw [(hp.alike b qb.2).1] at hab
          by_cases hlt : a.num < S.nb.num
          · rw [(hp.alike a hlt).1] at hab
            have hne := qa.resolve_right (by omega)
            cases hq : S.hp a with
            | none => exact absurd hq hne
            | some B => exact hr.inj a b B kb (hs.hp a B hq) hb hab
          · rcases hp.fresh a (by omega) (hp.rep.lt a ka ha).1 with h3 | ⟨id0, k0, h3, h4⟩
            · have := hr.size hb
              omega
            · have := hr.inj id0 b k0 kb (hs.hp id0 k0 h3) hb (by rw [h4, hab])
              subst this
              rw [qb.1] at h3; cases h3
        rcases cases' id with q | q
        · rw [inS id q] at hk2
          rcases cases' id' with q' | q'
          · rw [inS id' q'] at hk2'
            exact hp.rep.inj id id' k k' hk2 hk2' he2
          · rw [outS id' q'.1 q'.2] at hk2'
            exact mixed id id' k k' q q' hk2 hk2' he2
        · rw [outS id q.1 q.2] at hk2
          rcases cases' id' with q' | q'
          · rw [inS id' q'] at hk2'
            exact (mixed id' id k' k q' q hk2' hk2 he2.symm).symm
          · rw [outS id' q'.1 q'.2] at hk2'
            rw [(hp.alike id q.2).1, (hp.alike id' q'.2).1] at he2
            exact hr.inj id id' k k' hk2 hk2' he2
    refine ⟨fun i hi => hp.alike i (by rw [← hnb]; exact hi), hrep, hp.os, hp.tape, hp.output, hp.size, fun b hb hn => hp.same b hb fun id k hk2 => hn id k (hs.hp id k hk2), fun m hm id k hk2 hn => ?_, fun id h1 h2 => ?_⟩
    · rw [hwr] at hm
      have hm := List.append_cancel_right hm
      subst hm
      refine stay id k hk2 ?_
      cases hq : S.hp id with
      | none => rfl
      | some B => exact absurd ((hk id).2 (by rw [hq]; exact fun q => by cases q)) hn
    · rcases hp.fresh id (by rw [← hnb]; exact h1) h2 with h3 | ⟨id0, k0, h3, h4⟩
      · exact .inl h3
      · exact .inr ⟨id0, k0, hs.hp id0 k0 h3, h4⟩

/-! ### Runs that are known -/
structure Memo where
  args : List V
  S : St
  out : Out
  l : List (Pa × DB)
  nb : Pa
def okMemo (m : Memo) : Bool := allL (fun x => hasPa x.1 (keysT m.S.heap) || Nat.ble (Pa.num m.S.nb) (Pa.num x.1)) m.l
def memoK (args : List V) (st : St) (ko : KO) (m : Memo) : Ans :=
  bif eqL V.same m.args args && holdsS m.S st then ko m.out (overS m.l m.nb (keysT m.S.heap) st) else .stop 901 ""
/-- what is known, by the next block's number -/
def memoI (t : Tr Memo) (args : List V) (st : St) (ko : KO) : Ans := kOpt 902 (Tr.get st.nb t) fun m => memoK args st ko m
theorem memoI_at {t : Tr Memo} {g : Nat} (h : ∀ p m, Tr.get p t = some m → (∀ ρ, Facts ρ m.S → CTo P ρ g m.args m.S m.out (m.S.then m.l m.nb)) ∧ okMemo m = true) : IntrAt P ρ R g ⟨memoI t⟩ := by
  intro args st ko hf hk
  replace hk : Ok ρ R (memoI t args st ko) := hk
  unfold memoI at hk
  obtain ⟨m, hm, hk⟩ := ok_opt hk
  unfold memoK at hk
  obtain ⟨hb, hk2⟩ := ok_bif hk
  clear hk
  rw [Bool.and_eq_true] at hb
  have he := eqL_eq V.same_eq hb.1
  subst he
  have hs := holdsS_ok hb.2
  obtain ⟨h1, h2⟩ := h _ m hm
  have h3 := h1 ρ (hs.facts hf)
  refine ⟨_, _, hk2, h3.enter, over_ok h3 hs hf fun x hx => ?_⟩
  unfold okMemo at h2
  rw [allL_eq, List.all_eq_true] at h2
  have := h2 x hx
  rw [Bool.or_eq_true] at this
  rcases this with q | q
  · exact .inl (mem_keysT.1 (hasPa_iff.1 q))
  · exact .inr (nle q)
end
end Go.Fx
end

noncomputable section
namespace Go.Fx
set_option linter.unusedVariables false
def tblOf (l : List Memo) : Tr Memo := List.rec (motive := fun _ => Tr Memo) .e (fun m _ ih => Tr.set m.S.nb m ih) l
theorem tblOf_mem : ∀ {l : List Memo} {p : Pa} {m : Memo}, Tr.get p (tblOf l) = some m → m ∈ l
  | [], p, m, h => by
    have h : Tr.get p (Tr.e : Tr Memo) = some m := h
    rw [Tr.get_e] at h; cases h
  | x :: l, p, m, h => by
    have h : Tr.get p (Tr.set x.S.nb x (tblOf l)) = some m := h
    rw [Tr.get_set] at h
    split at h
    · cases h; exact List.mem_cons_self
    · exact List.mem_cons_of_mem _ (tblOf_mem h)
section
variable {P : Program} {ρ : Env} {R : V → Prop}
/-- a run of which it is known whereto it comes -/
structure Knows (P : Program) (g : Nat) (m : Memo) : Prop where
  to : ∀ ρ, Facts ρ m.S → CTo P ρ g m.args m.S m.out (m.S.then m.l m.nb)
  ok : okMemo m = true
theorem memos_at {l : List Memo} {g : Nat} (h : ∀ m ∈ l, Knows P g m) : IntrAt P ρ R g ⟨memoI (tblOf l)⟩ :=
  memoI_at fun p m hm => ⟨(h m (tblOf_mem hm)).to, (h m (tblOf_mem hm)).ok⟩
def chkM (m : Memo) : KO := chkO m.out (m.S.then m.l m.nb)
/-- is the run as m says? -/
def isM (X : XC) (d g : Nat) (m : Memo) : Bool := okMemo m && allGood (callE X d g m.args m.S (chkM m))
theorem knows_mk {X : XC} (hX : XOk P X) (hI : ∀ (ρ : Env) (R : V → Prop), IntrAll P ρ R X.intr) (hmix : P.follows .mixedOrders = true) (hd : X.dbg = false) (ho : OkFns X) {d g : Nat} {m : Memo} (h : isM X d g m = true) : Knows P g m := by
  unfold isM at h
  rw [Bool.and_eq_true] at h
  refine ⟨fun ρ hf => ?_, h.1⟩
  have h2 := h.2
  rw [callE_eq hd ho] at h2
  exact cut_call (R := fun _ => True) hX (intrOk_mk (hI ρ _)) hmix hf (allGood_ok _ h2)
end
end Go.Fx
end

