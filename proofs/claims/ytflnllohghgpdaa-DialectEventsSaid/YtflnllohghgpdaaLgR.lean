import Derived.Test.YtflnllohghgpdaaLgC
import Derived.RowKit3
import Derived.Laws.CopyRow
import Derived.Laws.Cells
import Derived.Lib.FrozenHead
/-
  What a value in memory is of data: 'LV'. Own blocks are listed; cells that are read by others are never written ('A': what may be written).
-/
namespace Lg
open Go
set_option linter.unusedSectionVars false
set_option linter.unusedSimpArgs false
set_option linter.unusedVariables false

def isSc : Value → Bool
  | .bool _ | .int _ _ | .string _ => true
  | _ => false
def flat (ds : List D) : List D := ds.flatMap D.cells
def okfr (n : Nat) (fr : Nat × Nat) : Prop := fr.1 = fr.2 ∨ n ≤ fr.1
theorem okfr.at {n : Nat} {fr : Nat × Nat} (h : okfr n fr) : ∀ off, off < n → ¬ (fr.1 ≤ off ∧ off < fr.2) := by
  intro off ho; unfold okfr at h; omega
abbrev Av := Nat → Nat → Prop
abbrev Io := Nat → Option (Option Nat)

section
variable (fid : Nat → FuncId) (w : World) (A : Av) (ι : Io)
mutual
inductive LV : Bool → Value → D → List Nat → Prop
  | sc {r} (v : Value) (h : isSc v = true) : LV r v (.sc v) []
  | un {r} (v : Value) : LV r v .un []
  | uk {r} (v : Value) (h : v.oneCell' = true) : LV r v .uk []
  | nl {r} : LV r (.pointer none) .nl []
  | sn {r} (a : Option Addr) : LV r (.slice a 0 0) .sn []
  | fn {r} (f : Nat) (vs : List Value) (ds : List D) (O : List Nat) (h : LVs r vs ds O) : LV r (.func (.func (fid f)) #[] ⟨vs⟩) (.fn f ds) O
  | agg {r} (vs : List Value) (ds : List D) (O : List Nat) (h : LVs r vs ds O) : LV r (.agg ⟨vs⟩) (.agg ds) O
  | tup {r} (vs : List Value) (ds : List D) (O : List Nat) (h : LVs r vs ds O) : LV r (.tuple ⟨vs⟩) (.tup ds) O
  | sl {r} (a : Option Addr) (n cap sz : Nat) (ds : List D) (vs : List Value) (hn : ds.length = n) (hc : n ≤ cap) (hu : ∀ d, d ∈ ds → d.cells.length = sz)
      (h : LVs false vs (flat ds) []) (h1 : ∀ v, v ∈ vs → v.oneCell' = true) (hr : ∀ (k : Nat) (v : Value), vs[k]? = some v → ∃ ad, a = some ad ∧ ¬ A ad.block (ad.off + k) ∧ w.cell? (ad.add k) = some v) : LV r (.slice a n cap) (.sl sz ds) []
  | ep {r} (ad : Addr) (ds : List D) (vs : List Value) (h : LVs false vs ds []) (h1 : ∀ v, v ∈ vs → v.oneCell' = true)
      (hr : ∀ (k : Nat) (v : Value), vs[k]? = some v → ¬ A ad.block (ad.off + k) ∧ w.cell? (ad.add k) = some v) : LV r (.pointer (some ad)) (.ep ds) []
  | osln {r} (a : Option Addr) (wr : Bool) (sz : Nat) : LV r (.slice a 0 0) (.osl wr sz []) []
  | osl {r} (b cap sz : Nat) (wr : Bool) (ds : List D) (vs : List Value) (cs : Array Value) (T : TypeId) (fr : Nat × Nat) (hb : w.heap[b]? = some (.cells cs T fr)) (hf : okfr cs.size fr)
      (hu : ∀ d, d ∈ ds → d.cells.length = sz) (h : LVs false vs (flat ds) []) (h1 : ∀ v, v ∈ vs → v.oneCell' = true) (hr : ∀ (k : Nat) (v : Value), vs[k]? = some v → cs[k]? = some v) (hc : ds.length ≤ cap) (hs : cap * sz ≤ cs.size)
      (ha : wr = true → ∀ off, A b off) (hA : ∀ off, vs.length ≤ off → A b off) : LV r (.slice (some ⟨b, 0, none⟩) ds.length cap) (.osl wr sz ds) [b]
  | obx {r} (b : Nat) (vs : List Value) (ds : List D) (O : List Nat) (T : TypeId) (fr : Nat × Nat) (hb : w.heap[b]? = some (.cells ⟨vs⟩ T fr)) (hf : okfr vs.length fr) (h : LVs r vs ds O) (h1 : ∀ v, v ∈ vs → v.oneCell' = true)
      (hA : ∀ off, A b off) : LV r (.pointer (some ⟨b, 0, none⟩)) (.obx ds) (b :: O)
  | omp {r} (b : Nat) (es : Array MapEntry) (c : Nat) (ks xs : List D) (hb : w.heap[b]? = some (.map es c)) (hk : LVs false (es.toList.map (·.key)) ks []) (hx : LVs false (es.toList.map (·.val)) xs [])
      (hA : ∀ off, A b off) : LV r (.map (some b)) (.omp ks xs) [b]
  | rf (a : Option Addr) (id sz off len cap : Nat) (q : Option Nat) (hi : ι id = some q) (h0 : q = none → len = 0 ∧ cap = 0 ∧ off = 0)
      (h1 : ∀ b, q = some b → (a = some ⟨b, off * sz, none⟩ ∨ cap = 0) ∧ len ≤ cap ∧ ∃ (cs : Array Value) (T : TypeId) (fr : Nat × Nat), w.heap[b]? = some (Obj.cells cs T fr) ∧ (off + cap) * sz ≤ cs.size) : LV true (.slice a len cap) (.rf id sz off len) []
  | pt (id sz e off b : Nat) (hi : ι id = some (some b)) : LV true (.pointer (some ⟨b, e * sz + off, none⟩)) (.pt id sz e off) []
  | mp (id b : Nat) (hi : ι id = some (some b)) : LV true (.map (some b)) (.mp id) []
inductive LVs : Bool → List Value → List D → List Nat → Prop
  | nil {r} : LVs r [] [] []
  | cons {r} (v : Value) (d : D) (O : List Nat) (vs : List Value) (ds : List D) (Os : List Nat) (h : LV r v d O) (hs : LVs r vs ds Os) : LVs r (v :: vs) (d :: ds) (O ++ Os)
end
end

/-- From one world to a later one: what may have changed ('C': blocks; cells that may be written). -/
structure Keep (w w' : World) (A A' : Av) (C : Nat → Prop) : Prop where
  os : w'.os = w.os
  tape : w'.tape = w.tape
  output : w'.output = w.output
  size : w.heap.size ≤ w'.heap.size
  blk : ∀ b, ¬ C b → b < w.heap.size → w'.heap[b]? = w.heap[b]?
  cel : ∀ b off v, ¬ A b off → w.cell? ⟨b, off, none⟩ = some v → w'.cell? ⟨b, off, none⟩ = some v
  siz : ∀ (b : Nat) (cs : Array Value) (T : TypeId) (fr : Nat × Nat), w.heap[b]? = some (Obj.cells cs T fr) → ∃ (cs' : Array Value) (fr' : Nat × Nat), w'.heap[b]? = some (Obj.cells cs' T fr') ∧ cs'.size = cs.size
  a1 : ∀ b off, A' b off → A b off ∨ (w.heap.size ≤ b ∧ b < w'.heap.size)
  a2 : ∀ b off, ¬ C b → b < w.heap.size → A b off → A' b off

theorem lt_of_heap {w : World} {b : Nat} {o : Obj} (h : w.heap[b]? = some o) : b < w.heap.size := (Array.getElem?_eq_some_iff.1 h).1

theorem Keep.refl (w : World) (A : Av) (C : Nat → Prop) : Keep w w A A C :=
  ⟨rfl, rfl, rfl, Nat.le_refl _, fun _ _ _ => rfl, fun _ _ _ _ h => h, fun b cs T fr h => ⟨cs, fr, h, rfl⟩, fun _ _ h => .inl h, fun _ _ _ _ h => h⟩

theorem Keep.mono {w w' : World} {A A' : Av} {C C' : Nat → Prop} (h : Keep w w' A A' C) (hC : ∀ b, C b → C' b) : Keep w w' A A' C' :=
  ⟨h.os, h.tape, h.output, h.size, fun b hb => h.blk b (fun c => hb (hC b c)), h.cel, h.siz, h.a1, fun b off hb => h.a2 b off (fun c => hb (hC b c))⟩

theorem Keep.trans {w w1 w2 : World} {A A1 A2 : Av} {C C1 C2 : Nat → Prop} (h : Keep w w1 A A1 C1) (k : Keep w1 w2 A1 A2 C2)
    (h1 : ∀ b, C1 b → C b ∨ w.heap.size ≤ b) (h2 : ∀ b, C2 b → C b ∨ w.heap.size ≤ b) : Keep w w2 A A2 C := by
  refine ⟨k.os.trans h.os, k.tape.trans h.tape, k.output.trans h.output, Nat.le_trans h.size k.size, ?_, ?_, ?_, ?_, ?_⟩
  · intro b hb hlt
    rw [k.blk b (fun c => by rcases h2 b c with c | c; exact hb c; omega) (Nat.lt_of_lt_of_le hlt h.size), h.blk b (fun c => by rcases h1 b c with c | c; exact hb c; omega) hlt]
  · intro b off v hA hc
    have h' := h.cel b off v hA hc
    refine k.cel b off v (fun hA1 => ?_) h'
    rcases h.a1 b off hA1 with a | a
    · exact hA a
    · have : b < w.heap.size := World.block_lt_of_cell? w ⟨b, off, none⟩ hc
      omega
  · intro b cs T fr hb
    obtain ⟨cs1, fr1, hb1, e1⟩ := h.siz b cs T fr hb
    obtain ⟨cs2, fr2, hb2, e2⟩ := k.siz b cs1 T fr1 hb1
    exact ⟨cs2, fr2, hb2, e2.trans e1⟩
  · intro b off hA
    rcases k.a1 b off hA with a | a
    · rcases h.a1 b off a with a | a
      · exact .inl a
      · exact .inr ⟨a.1, Nat.lt_of_lt_of_le a.2 k.size⟩
    · exact .inr ⟨Nat.le_trans h.size a.1, a.2⟩
  · intro b off hb hlt hA
    exact k.a2 b off (fun c => by rcases h2 b c with c | c; exact hb c; omega) (Nat.lt_of_lt_of_le hlt h.size) (h.a2 b off (fun c => by rcases h1 b c with c | c; exact hb c; omega) hlt hA)

section
variable {fid : Nat → FuncId} {w w' : World} {A A' : Av} {ι ι' : Io} {C : Nat → Prop}

theorem add_block (a : Addr) (k : Nat) : (a.add k).block = a.block := by unfold Addr.add; split <;> rfl

theorem Keep.celAdd (K : Keep w w' A A' C) (ad : Addr) (k : Nat) (v : Value) (hA : ¬ A ad.block (ad.off + k)) (h : w.cell? (ad.add k) = some v) :
    ¬ A' ad.block (ad.off + k) ∧ w'.cell? (ad.add k) = some v := by
  have hlt : ad.block < w.heap.size := by have := World.block_lt_of_cell? w (ad.add k) h; rwa [add_block] at this
  refine ⟨fun h' => ?_, ?_⟩
  · rcases K.a1 _ _ h' with a | a
    · exact hA a
    · omega
  · unfold Addr.add at h ⊢
    split at h
    · rename_i hk
      subst hk
      simp only [Nat.add_zero] at hA
      rw [if_pos rfl]
      obtain ⟨b, off, spot⟩ := ad
      cases spot with
      | none => exact K.cel b off v hA h
      | some s =>
        exfalso
        unfold World.cell? at h
        split at h <;> simp at h
    · rename_i hk
      rw [if_neg hk]
      exact K.cel _ _ v hA h

theorem LV.keep_both (fid : Nat → FuncId) (K : Keep w w' A A' C) (hι : ∀ id q, ι id = some q → ι' id = some q) :
    (∀ {r : Bool} {v : Value} {d : D} {O : List Nat}, LV fid w A ι r v d O → (∀ b, b ∈ O → ¬ C b) → LV fid w' A' ι' r v d O) ∧
    (∀ {r : Bool} {vs : List Value} {ds : List D} {O : List Nat}, LVs fid w A ι r vs ds O → (∀ b, b ∈ O → ¬ C b) → LVs fid w' A' ι' r vs ds O) := by
  have key : ∀ {r : Bool} {v : Value} {d : D} {O : List Nat}, (h : LV fid w A ι r v d O) → (∀ b, b ∈ O → ¬ C b) → LV fid w' A' ι' r v d O := by
    intro r v d O h
    refine LV.rec (motive_1 := fun r v d O _ => (∀ b, b ∈ O → ¬ C b) → LV fid w' A' ι' r v d O)
      (motive_2 := fun r vs ds O _ => (∀ b, b ∈ O → ¬ C b) → LVs fid w' A' ι' r vs ds O) ?_ ?_ ?_ ?_ ?_ ?_ ?_ ?_ ?_ ?_ ?_ ?_ ?_ ?_ ?_ ?_ ?_ ?_ ?_ h
    · intro r v h _; exact .sc v h
    · intro r v _; exact .un v
    · intro r v h _; exact .uk v h
    · intro r _; exact .nl
    · intro r a _; exact .sn a
    · intro r f vs ds O _ ih hO; exact .fn f vs ds O (ih hO)
    · intro r vs ds O _ ih hO; exact .agg vs ds O (ih hO)
    · intro r vs ds O _ ih hO; exact .tup vs ds O (ih hO)
    · intro r a n cap sz ds vs hn hc hu _ h1 hr ih _
      refine .sl a n cap sz ds vs hn hc hu (ih (by simp)) h1 fun k v hk => ?_
      obtain ⟨ad, e, hA, hcell⟩ := hr k v hk
      exact ⟨ad, e, K.celAdd ad k v hA hcell⟩
    · intro r ad ds vs _ h1 hr ih _
      refine .ep ad ds vs (ih (by simp)) h1 fun k v hk => ?_
      exact K.celAdd ad k v (hr k v hk).1 (hr k v hk).2
    · intro r a wr sz _; exact .osln a wr sz
    · intro r b cap sz wr ds vs cs T fr hb hf hu _ h1 hr hc hs ha hA ih hO
      have hb' := K.blk b (hO b (by simp)) (lt_of_heap hb)
      exact .osl b cap sz wr ds vs cs T fr (hb'.trans hb) hf hu (ih (by simp)) h1 hr hc hs
        (fun e off => K.a2 b off (hO b (by simp)) (lt_of_heap hb) (ha e off)) (fun off ho => K.a2 b off (hO b (by simp)) (lt_of_heap hb) (hA off ho))
    · intro r b vs ds O T fr hb hf _ h1 hA ih hO
      have hb' := K.blk b (hO b (by simp)) (lt_of_heap hb)
      exact .obx b vs ds O T fr (hb'.trans hb) hf (ih (fun x hx => hO x (by simp [hx]))) h1 (fun off => K.a2 b off (hO b (by simp)) (lt_of_heap hb) (hA off))
    · intro r b es c ks xs hb _ _ hA ih1 ih2 hO
      have hb' := K.blk b (hO b (by simp)) (lt_of_heap hb)
      exact .omp b es c ks xs (hb'.trans hb) (ih1 (by simp)) (ih2 (by simp)) (fun off => K.a2 b off (hO b (by simp)) (lt_of_heap hb) (hA off))
    · intro a id sz off len cap q hi h0 h1 _
      refine .rf a id sz off len cap q (hι id q hi) h0 fun b e => ?_
      obtain ⟨e1, e2, cs, T, fr, hb, hs⟩ := h1 b e
      obtain ⟨cs', fr', hb', es⟩ := K.siz b cs T fr hb
      exact ⟨e1, e2, cs', T, fr', hb', by rw [es]; exact hs⟩
    · intro id sz e off b hi _; exact .pt id sz e off b (hι id _ hi)
    · intro id b hi _; exact .mp id b (hι id _ hi)
    · intro r _; exact .nil
    · intro r v d O vs ds Os _ _ ih1 ih2 hO
      exact .cons v d O vs ds Os (ih1 fun b hb => hO b (by simp [hb])) (ih2 fun b hb => hO b (by simp [hb]))
  refine ⟨key, ?_⟩
  intro r vs
  induction vs with
  | nil => intro ds O h _; cases h; exact .nil
  | cons v vs ih =>
    intro ds O h hO
    cases h with
    | cons _ d O1 _ ds O2 h hs =>
      exact .cons v d O1 vs ds O2 (key h fun b hb => hO b (by simp [hb])) (ih hs fun b hb => hO b (by simp [hb]))

theorem LV.keep {fid : Nat → FuncId} (K : Keep w w' A A' C) (hι : ∀ id q, ι id = some q → ι' id = some q) {r : Bool} {v : Value} {d : D} {O : List Nat}
    (h : LV fid w A ι r v d O) (hO : ∀ b, b ∈ O → ¬ C b) : LV fid w' A' ι' r v d O := (LV.keep_both fid K hι).1 h hO
theorem LVs.keep {fid : Nat → FuncId} (K : Keep w w' A A' C) (hι : ∀ id q, ι id = some q → ι' id = some q) {r : Bool} {vs : List Value} {ds : List D} {O : List Nat}
    (h : LVs fid w A ι r vs ds O) (hO : ∀ b, b ∈ O → ¬ C b) : LVs fid w' A' ι' r vs ds O := (LV.keep_both fid K hι).2 h hO

theorem LV.weak_both {fid : Nat → FuncId} {w : World} {A : Av} {ι ι' : Io} :
    (∀ {v : Value} {d : D} {O : List Nat}, LV fid w A ι false v d O → ∀ r', LV fid w A ι' r' v d O) ∧
    (∀ {vs : List Value} {ds : List D} {O : List Nat}, LVs fid w A ι false vs ds O → ∀ r', LVs fid w A ι' r' vs ds O) := by
  have key : ∀ {r : Bool} {v : Value} {d : D} {O : List Nat}, LV fid w A ι r v d O → r = false → ∀ r', LV fid w A ι' r' v d O := by
    intro r v d O h
    refine LV.rec (motive_1 := fun r v d O _ => r = false → ∀ r', LV fid w A ι' r' v d O)
      (motive_2 := fun r vs ds O _ => r = false → ∀ r', LVs fid w A ι' r' vs ds O) ?_ ?_ ?_ ?_ ?_ ?_ ?_ ?_ ?_ ?_ ?_ ?_ ?_ ?_ ?_ ?_ ?_ ?_ ?_ h
    · intro r v h _ _; exact .sc v h
    · intro r v _ _; exact .un v
    · intro r v h _ _; exact .uk v h
    · intro r _ _; exact .nl
    · intro r a _ _; exact .sn a
    · intro r f vs ds O _ ih e r'; exact .fn f vs ds O (ih e r')
    · intro r vs ds O _ ih e r'; exact .agg vs ds O (ih e r')
    · intro r vs ds O _ ih e r'; exact .tup vs ds O (ih e r')
    · intro r a n cap sz ds vs hn hc hu _ h1 hr ih _ _; exact .sl a n cap sz ds vs hn hc hu (ih rfl false) h1 hr
    · intro r ad ds vs _ h1 hr ih _ _; exact .ep ad ds vs (ih rfl false) h1 hr
    · intro r a wr sz _ _; exact .osln a wr sz
    · intro r b cap sz wr ds vs cs T fr hb hf hu _ h1 hr hc hs ha hA ih _ _
      exact .osl b cap sz wr ds vs cs T fr hb hf hu (ih rfl false) h1 hr hc hs ha hA
    · intro r b vs ds O T fr hb hf _ h1 hA ih e r'; exact .obx b vs ds O T fr hb hf (ih e r') h1 hA
    · intro r b es c ks xs hb _ _ hA ih1 ih2 _ _; exact .omp b es c ks xs hb (ih1 rfl false) (ih2 rfl false) hA
    · intro a id sz off len cap q hi h0 h1 e; cases e
    · intro id sz e off b hi e; cases e
    · intro id b hi e; cases e
    · intro r _ _; exact .nil
    · intro r v d O vs ds Os _ _ ih1 ih2 e r'; exact .cons v d O vs ds Os (ih1 e r') (ih2 e r')
  refine ⟨fun h r' => key h rfl r', ?_⟩
  intro vs
  induction vs with
  | nil => intro ds O h r'; cases h; exact .nil
  | cons v vs ih =>
    intro ds O h r'
    cases h with
    | cons _ d O1 _ ds O2 h hs => exact .cons v d O1 vs ds O2 (key h rfl r') (ih hs r')
theorem LV.weak {fid : Nat → FuncId} {w : World} {A : Av} {ι ι' : Io} {r : Bool} {v : Value} {d : D} {O : List Nat} (h : LV fid w A ι false v d O) : LV fid w A ι' r v d O := LV.weak_both.1 h r
theorem LVs.weak {fid : Nat → FuncId} {w : World} {A : Av} {ι ι' : Io} {r : Bool} {vs : List Value} {ds : List D} {O : List Nat} (h : LVs fid w A ι false vs ds O) : LVs fid w A ι' r vs ds O := LV.weak_both.2 h r

section
variable {fid : Nat → FuncId} {w : World} {A : Av} {ι : Io} {r : Bool}
theorem LVs.length_eq {vs : List Value} {ds : List D} {O : List Nat} (h : LVs fid w A ι r vs ds O) : vs.length = ds.length := by
  induction vs generalizing ds O with
  | nil => cases h; rfl
  | cons v vs ih => cases h with | cons _ d O1 _ ds O2 h hs => simp [ih hs]

theorem LV.noTree_both :
    (∀ {v : Value} {d : D} {O : List Nat}, LV fid w A ι r v d O → noTree d = true → O = []) ∧
    (∀ {vs : List Value} {ds : List D} {O : List Nat}, LVs fid w A ι r vs ds O → noTrees ds = true → O = []) := by
  have key : ∀ {v : Value} {d : D} {O : List Nat}, LV fid w A ι r v d O → noTree d = true → O = [] := by
    intro v d O h
    refine LV.rec (motive_1 := fun r v d O _ => noTree d = true → O = []) (motive_2 := fun r vs ds O _ => noTrees ds = true → O = []) ?_ ?_ ?_ ?_ ?_ ?_ ?_ ?_ ?_ ?_ ?_ ?_ ?_ ?_ ?_ ?_ ?_ ?_ ?_ h <;>
      intros <;> first | rfl | (rename_i ih e; exact ih (by simpa [noTree] using e)) | (rename_i e; simp [noTree] at e; done) | skip
    rename_i ih1 ih2 e
    simp only [noTrees, Bool.and_eq_true] at e
    rw [ih1 e.1, ih2 e.2]; rfl
  refine ⟨key, ?_⟩
  intro vs
  induction vs with
  | nil => intro ds O h _; cases h; rfl
  | cons v vs ih =>
    intro ds O h e
    cases h with
    | cons _ d O1 _ ds O2 h hs =>
      simp only [noTrees, Bool.and_eq_true] at e
      rw [key h e.1, ih hs e.2]; rfl
theorem LV.noTree {v : Value} {d : D} {O : List Nat} (h : LV fid w A ι r v d O) (e : noTree d = true) : O = [] := LV.noTree_both.1 h e
theorem LVs.noTree {vs : List Value} {ds : List D} {O : List Nat} (h : LVs fid w A ι r vs ds O) (e : noTrees ds = true) : O = [] := LV.noTree_both.2 h e

theorem LV.ro_both :
    (∀ {v : Value} {d : D} {O : List Nat}, LV fid w A ι r v d O → isRO d = true → LV fid w A ι false v d []) ∧
    (∀ {vs : List Value} {ds : List D} {O : List Nat}, LVs fid w A ι r vs ds O → isROs ds = true → LVs fid w A ι false vs ds []) := by
  have key : ∀ {v : Value} {d : D} {O : List Nat}, LV fid w A ι r v d O → isRO d = true → LV fid w A ι false v d [] := by
    intro v d O h
    refine LV.rec (motive_1 := fun r v d O _ => isRO d = true → LV fid w A ι false v d []) (motive_2 := fun r vs ds O _ => isROs ds = true → LVs fid w A ι false vs ds [])
      ?_ ?_ ?_ ?_ ?_ ?_ ?_ ?_ ?_ ?_ ?_ ?_ ?_ ?_ ?_ ?_ ?_ ?_ ?_ h
    · intro r v h _; exact .sc v h
    · intro r v _; exact .un v
    · intro r v h _; exact .uk v h
    · intro r _; exact .nl
    · intro r a _; exact .sn a
    · intro r f vs ds O _ ih e; exact .fn f vs ds [] (ih (by simpa [isRO] using e))
    · intro r vs ds O _ ih e; exact .agg vs ds [] (ih (by simpa [isRO] using e))
    · intro r vs ds O _ ih e; exact .tup vs ds [] (ih (by simpa [isRO] using e))
    · intro r a n cap sz ds vs hn hc hu h h1 hr ih _; exact .sl a n cap sz ds vs hn hc hu h h1 hr
    · intro r ad ds vs h h1 hr ih _; exact .ep ad ds vs h h1 hr
    · intro r a wr sz e; simp [isRO] at e
    · intros; rename_i e; simp [isRO] at e
    · intros; rename_i e; simp [isRO] at e
    · intros; rename_i e; simp [isRO] at e
    · intros; rename_i e; simp [isRO] at e
    · intros; rename_i e; simp [isRO] at e
    · intros; rename_i e; simp [isRO] at e
    · intro r _; exact .nil
    · intro r v d O vs ds Os _ _ ih1 ih2 e
      simp only [isROs, Bool.and_eq_true] at e
      exact .cons v d [] vs ds [] (ih1 e.1) (ih2 e.2)
  refine ⟨key, ?_⟩
  intro vs
  induction vs with
  | nil => intro ds O h _; cases h; exact .nil
  | cons v vs ih =>
    intro ds O h e
    cases h with
    | cons _ d O1 _ ds O2 h hs =>
      simp only [isROs, Bool.and_eq_true] at e
      exact .cons v d [] vs ds [] (key h e.1) (ih hs e.2)
theorem LV.ro {v : Value} {d : D} {O : List Nat} (h : LV fid w A ι r v d O) (e : isRO d = true) : LV fid w A ι false v d [] := LV.ro_both.1 h e
theorem LVs.ro {vs : List Value} {ds : List D} {O : List Nat} (h : LVs fid w A ι r vs ds O) (e : isROs ds = true) : LVs fid w A ι false vs ds [] := LV.ro_both.2 h e

/-! ### lists without trees: place by place -/
theorem LVs.cons' {v : Value} {d : D} {vs : List Value} {ds : List D} (h : LV fid w A ι r v d []) (hs : LVs fid w A ι r vs ds []) : LVs fid w A ι r (v :: vs) (d :: ds) [] :=
  LVs.cons v d [] vs ds [] h hs
theorem LVs.uncons {v : Value} {d : D} {vs : List Value} {ds : List D} (h : LVs fid w A ι r (v :: vs) (d :: ds) []) : LV fid w A ι r v d [] ∧ LVs fid w A ι r vs ds [] := by
  generalize hO : ([] : List Nat) = O at h
  cases h with
  | cons _ _ O1 _ _ O2 h hs =>
    have := List.append_eq_nil_iff.1 hO.symm
    obtain ⟨rfl, rfl⟩ := this
    exact ⟨h, hs⟩
theorem LVs.append {vs us : List Value} {ds es : List D} (h : LVs fid w A ι r vs ds []) (k : LVs fid w A ι r us es []) : LVs fid w A ι r (vs ++ us) (ds ++ es) [] := by
  induction vs generalizing ds with
  | nil => cases ds with | nil => exact k | cons => cases h
  | cons v vs ih =>
    cases ds with
    | nil => cases h
    | cons d ds => exact LVs.cons' h.uncons.1 (ih h.uncons.2)
theorem LVs.take {vs : List Value} {ds : List D} (n : Nat) (h : LVs fid w A ι r vs ds []) : LVs fid w A ι r (vs.take n) (ds.take n) [] := by
  induction vs generalizing ds n with
  | nil => cases ds with | nil => simp; exact .nil | cons => cases h
  | cons v vs ih =>
    cases ds with
    | nil => cases h
    | cons d ds =>
      cases n with
      | zero => exact .nil
      | succ n => exact LVs.cons' h.uncons.1 (ih n h.uncons.2)
theorem LVs.drop {vs : List Value} {ds : List D} (n : Nat) (h : LVs fid w A ι r vs ds []) : LVs fid w A ι r (vs.drop n) (ds.drop n) [] := by
  induction vs generalizing ds n with
  | nil => cases ds with | nil => simp; exact .nil | cons => cases h
  | cons v vs ih =>
    cases ds with
    | nil => cases h
    | cons d ds =>
      cases n with
      | zero => exact h
      | succ n => exact ih n h.uncons.2
theorem LVs.get {vs : List Value} {ds : List D} (h : LVs fid w A ι r vs ds []) {k : Nat} {d : D} (hk : ds[k]? = some d) : ∃ v, vs[k]? = some v ∧ LV fid w A ι r v d [] := by
  induction vs generalizing ds k with
  | nil => cases ds with | nil => simp at hk | cons => cases h
  | cons v vs ih =>
    cases ds with
    | nil => cases h
    | cons e ds =>
      cases k with
      | zero => simp at hk; subst hk; exact ⟨v, rfl, h.uncons.1⟩
      | succ k => simp at hk; simpa using ih h.uncons.2 hk
theorem LVs.nil_of {vs : List Value} (h : LVs fid w A ι r vs [] []) : vs = [] := by cases h; rfl
theorem LVs.replicate {v : Value} {d : D} (n : Nat) (h : LV fid w A ι r v d []) : LVs fid w A ι r (List.replicate n v) (List.replicate n d) [] := by
  induction n with
  | zero => exact .nil
  | succ n ih => exact LVs.cons' h ih
theorem noTree_ne {d : D} (h : Lg.noTree d = true) : d ≠ .un := by rintro rfl; simp [Lg.noTree] at h
theorem cells_ne {d : D} (h : d.cells.all isCellD = true) : d ≠ .un := by rintro rfl; simp [D.cells, isCellD] at h
/-- A value's cells. -/
theorem LV.cells {v : Value} {d : D} {O : List Nat} (h : LV fid w A ι r v d O) (hne : d ≠ .un) : LVs fid w A ι r v.cells.toList d.cells O := by
  have one : ∀ {v : Value} {d : D} {O : List Nat}, LV fid w A ι r v d O → v.cells = #[v] → d.cells = [d] → LVs fid w A ι r v.cells.toList d.cells O := by
    intro v d O h e1 e2
    rw [e1, e2]
    have := LVs.cons v d O [] [] [] h .nil
    simpa using this
  cases h with
  | agg vs ds _ h => exact h
  | un v => exact (hne rfl).elim
  | sc v hv =>
    refine one (.sc v hv) ?_ rfl
    cases v <;> simp [isSc] at hv <;> rfl
  | uk v hv =>
    refine one (.uk v hv) ?_ rfl
    cases v <;> simp [Value.oneCell'] at hv <;> rfl
  | nl => exact one .nl rfl rfl
  | sn a => exact one (.sn a) rfl rfl
  | fn f vs ds _ h => exact one (.fn f vs ds O h) rfl rfl
  | tup vs ds _ h => exact one (.tup vs ds O h) rfl rfl
  | sl a n cap sz ds vs hn hc hu h h1 hr => exact one (.sl a n cap sz ds vs hn hc hu h h1 hr) rfl rfl
  | ep ad ds vs h h1 hr => exact one (.ep ad ds vs h h1 hr) rfl rfl
  | osln a wr sz => exact one (.osln a wr sz) rfl rfl
  | osl b cap sz wr ds vs cs T fr hb hf hu h h1 hr hc hs ha hA => exact one (.osl b cap sz wr ds vs cs T fr hb hf hu h h1 hr hc hs ha hA) rfl rfl
  | obx b vs ds O T fr hb hf h h1 hA => exact one (.obx b vs ds O T fr hb hf h h1 hA) rfl rfl
  | omp b es c ks xs hb hk hx hA => exact one (.omp b es c ks xs hb hk hx hA) rfl rfl
  | rf a id sz off len cap q hi h0 h1 => exact one (.rf a id sz off len cap q hi h0 h1) rfl rfl
  | pt id sz e off b hi => exact one (.pt id sz e off b hi) rfl rfl
  | mp id b hi => exact one (.mp id b hi) rfl rfl
end
end
end Lg
