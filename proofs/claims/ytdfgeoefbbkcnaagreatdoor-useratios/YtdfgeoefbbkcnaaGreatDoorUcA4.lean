/-
  What is proved: laws for strings, tables and loops over lists.
-/
import Derived.Test.YtdfgeoefbbkcnaaGreatDoorUcA1
import Derived.Test.YtdfgeoefbbkcnaaGreatDoorProg
set_option linter.unusedSectionVars false
set_option linter.unusedSimpArgs false
set_option linter.unusedVariables false
set_option linter.unnecessarySimpa false
set_option linter.deprecated false
namespace Go.Sim
section
variable {E : Env} {w0 : World} {M0 : Nat → Prop} {Q : Exit → ASt → Prop} {s : ASt}

/-- a cut: what is behind is walked once, at a family of states -/
theorem aw_cut_g {γ : Type} {x y : Code} (S : γ → List (Nat × TV) × Mem) (P : γ → Prop) (h : AWp E w0 M0 x (athen (Goes S P s.n (fun _ => True)) Q) s) (k : ∀ g, P g → AWp E w0 M0 y Q (stt s.n (S g).1 (S g).2)) : AWp E w0 M0 (.seq x y) Q s := by
  refine aw_seq (h.mono fun e s' hq => ?_)
  cases e <;> try exact hq
  obtain ⟨h0, g, h1, h2, h3, h4, _⟩ := hq
  refine aw_weak h1 h2 h3 ?_
  rw [h0]
  exact k g h4

theorem condT {α : Type} {c : Bool} {a b r : α} (h : (bif c then a else b) = r) (h1 : c = true) : a = r := by rw [h1] at h; exact h
theorem condF {α : Type} {c : Bool} {a b r : α} (h : (bif c then a else b) = r) (h1 : c = false) : b = r := by rw [h1] at h; exact h
def bindO {α β : Type} (x : Option α) (k : α → Option β) : Option β := match x with | some a => k a | none => none
theorem bindO_inv {α β : Type} {x : Option α} {k : α → Option β} {r : β} (h : bindO x k = some r) : ∃ a, x = some a ∧ k a = some r := by
  cases x with
  | none => cases h
  | some a => exact ⟨a, rfl, h⟩

variable {o : Oper} {ev : Operand → TV} {mem : Mem}
theorem eff_lenM {α : Type} {t el : TypeId} {x : Operand} {k : Nat} {l : List α} {f : α → List G} (ho : o.op = .call ⟨.builtin .len, #[x], #[t]⟩)
    (ht : E.P.underlying t = some (.slice el)) (hx : ev x = .g (.sl k (l.map f))) (mem : Mem) : Eff E o mem ev (.g (.int (l.length : Int))) := by
  have := eff_len ho ht hx mem
  rwa [List.length_map] at this
theorem eff_lenO0 {t el : TypeId} {x : Operand} {id k hi : Nat} (ho : o.op = .call ⟨.builtin .len, #[x], #[t]⟩) (ht : E.P.underlying t = some (.slice el)) (hx : ev x = .osl id k 0 hi) (mem : Mem) : Eff E o mem ev (.g (.int (hi : Int))) := eff_lenO ho ht hx mem

/-- the nil slice, as a slice of the call's own -/
theorem eff_nilL {z : Operand} (id : Nat) (e : TypeId) (k : Nat) (ho : o.op = .assign z) (hz : ev z = .g (.lit (.slice none 0 0))) (hf : lookO mem id = none) : EffW E o mem ev (.osl id k 0 0) ((id, .arr e k []) :: mem) none := by
  intro w0 M0 ρ w e' hm he
  have h1 := he z (by rw [ho]; simp [Op.operands])
  rw [hz] at h1
  have h1' : e' z = .slice none 0 0 := h1
  have hr := rho_none hm hf
  obtain ⟨k1, k2⟩ := mrel_upd (id := id) (x := none) (blk' := .arr e k []) none hm ⟨rfl, rfl, rfl, Nat.le_refl _, fun _ _ _ => rfl⟩ (fun _ h => by cases h) (.inr ⟨rfl, .inl hr⟩) (fun _ b _ _ => noref_none b) (.inl ⟨rhoSet_same _ _ _, rfl⟩)
  have hrun : (execOp e' o).run E.P w = .ok (.value (.slice none 0 0)) w := by simp [execOp, ho, h1']
  rw [hrun]
  exact ⟨_, k1, k2, .inl ⟨rhoSet_same _ _ _, rfl, rfl, rfl⟩⟩

/-- 'append' to a slice of the call's own, by the lists' elements -/
theorem eff_appL {α : Type} {f : α → List G} {out new : List α} {s x : Operand} {t e : TypeId} {k by_ id : Nat} (ho : o.op = .call ⟨.builtin .append, #[s, x], #[t, t]⟩) (ha : appK E.P t = some (e, k + 1, by_ + 1)) (hs : ev s = .osl id (k + 1) 0 out.length)
    (hx : lookO mem id = some (.arr e (k + 1) (out.map f))) (hsrc : SrcT E mem (k + 1) (new.map f) (ev x)) (hrefs : ∀ i blk, lookO mem i = some blk → i ≠ id → blk.noref (some id) = true) (hb : (out.length + new.length) * (by_ + 1) ≤ 140737488355328) :
    EffW E o mem ev (.osl id (k + 1) 0 (out ++ new).length) ((id, .arr e (k + 1) ((out ++ new).map f)) :: mem) (some id) := by
  have := eff_appO ho ha hs hx (Nat.zero_le _) (by simp) hsrc hrefs (by simpa using hb)
  simpa using this

/-- an element of a slice that is read -/
theorem eff_ix {α : Type} {t el : TypeId} {x ix : Operand} {k : Nat} {b : Bool} {kk : IntKind} {n : Int} {l : List α} {f : α → List G} {a : α} (ho : o.op = .indexAddr t x ix) (ht : E.P.underlying t = some (.slice el)) (he : tyK E.P el = some (k + 1, b)) (hx : ev x = .g (.sl (k + 1) (l.map f)))
    (hi : ev ix = .g (.lit (.int kk n))) (h0 : 0 ≤ n) (ha : l[n.toNat]? = some a) (mem : Mem) : Eff E o mem ev (.g (.ref (f a))) :=
  eff_indexAddr ho ht he hx hi h0 (by rw [List.getElem?_map, ha]; rfl) mem

theorem run_slBound {P : Program} {k : IntKind} {n tp : Nat} {w : World} (hn : n ≤ tp) (code : BoundsCode) : (Instr.sliceBound (.int k (n : Int)) tp code).run P w = .ok n w := by
  have : (0 : Int) ≤ (n : Int) ∧ (n : Int) ≤ (tp : Int) := by omega
  simp [Instr.sliceBound, asIntOf, this]

/-- a bound of a slice expression: what it comes to -/
def BndV (ev : Operand → TV) (x : Option Operand) (a d : Nat) : Prop := match x with
  | none => a = d
  | some y => ∃ kk, ev y = .g (.lit (.int kk (a : Int)))
theorem bnd_none {d : Nat} : BndV ev none d d := rfl
theorem bnd_some {y : Operand} {kk : IntKind} {n : Int} {d : Nat} (h : ev y = .g (.lit (.int kk n))) (h0 : 0 ≤ n) : BndV ev (some y) n.toNat d := ⟨kk, by rw [h, Int.toNat_of_nonneg h0]⟩

theorem run_slBounds {P : Program} {w : World} {e' : Operand → Value} {ρ : Rho} {M : Nat → Prop} {lo hi : Option Operand} {len cap a c : Nat} {isS : Bool} (hlo : BndV ev lo a 0) (hhi : BndV ev hi c len) (hac : a ≤ c) (hcl : c ≤ len) (hlc : len ≤ cap)
    (he : ∀ y, (lo = some y ∨ hi = some y) → TRel w M ρ (ev y) (e' y)) : (Instr.sliceBounds isS len cap (lo.map e') (hi.map e') none).run P w = .ok (a, c, cap) w := by
  have key : (∃ k, hi.map e' = some (.int k (c : Int))) ∨ (hi.map e' = none ∧ c = len) := by
    cases hi with
    | none => exact .inr ⟨rfl, hhi⟩
    | some y =>
      obtain ⟨kk, h⟩ := hhi
      have := he y (.inr rfl)
      rw [h] at this
      exact .inl ⟨kk, by rw [Option.map_some, show e' y = _ from this]⟩
  have key2 : (∃ k, lo.map e' = some (.int k (a : Int))) ∨ (lo.map e' = none ∧ a = 0) := by
    cases lo with
    | none => exact .inr ⟨rfl, hlo⟩
    | some y =>
      obtain ⟨kk, h⟩ := hlo
      have := he y (.inl rfl)
      rw [h] at this
      exact .inl ⟨kk, by rw [Option.map_some, show e' y = _ from this]⟩
  rcases key with ⟨k, h1⟩ | ⟨h1, rfl⟩ <;> rcases key2 with ⟨k2, h2⟩ | ⟨h2, rfl⟩ <;> rw [h1, h2] <;>
    simp [Instr.sliceBounds, run_slBound (P := P) (w := w) hac, run_slBound (P := P) (w := w) (show c ≤ cap by omega), run_slBound (P := P) (w := w) hlc]

/-- a slice of a slice that is read -/
theorem eff_slG {α : Type} {f : α → List G} {l : List α} {t el : TypeId} {x : Operand} {lo hi : Option Operand} {k a c : Nat} {b : Bool} (ho : o.op = .slice t x lo hi none) (ht : E.P.underlying t = some (.slice el)) (hk : tyK E.P el = some (k, b)) (hx : ev x = .g (.sl k (l.map f)))
    (hlo : BndV ev lo a 0) (hhi : BndV ev hi c l.length) (hac : a ≤ c) (hcl : c ≤ l.length) (mem : Mem) : Eff E o mem ev (.g (.sl k (((l.take c).drop a).map f))) :=
  eff_same (fun w M ρ e' he => by
    have h1 := he x (by rw [ho]; simp [Op.operands])
    rw [hx] at h1
    obtain ⟨ad, cap, h2, h3, h4, h5, h6⟩ := h1
    rw [List.length_map] at h2 h3
    have hb := run_slBounds (P := E.P) (isS := true) (w := w) (e' := e') (ρ := ρ) (M := M) hlo hhi hac hcl h3 (fun y hy => he y (by
      rw [ho]
      rcases hy with rfl | rfl <;> simp [Op.operands]))
    refine ⟨.slice (if cap = a then ad else ad.map (·.add (a * k))) (c - a) (cap - a), ?_, (if cap = a then ad else ad.map (·.add (a * k))), cap - a, ?_, ?_, by omega, ?_, ?_⟩
    · simp only [execOp, ho, h2, Instr.sliceAt, Instr.slice, Sem.run_bind, Sem.run_map, run_underlying ht, Result.andThen_ok, Option.map_none, hb, run_sizeOf hk, Sem.run_pure]
    · rw [List.length_map, List.length_drop, List.length_take]; congr 1; omega
    · rw [List.length_map, List.length_drop, List.length_take]; omega
    · intro cc hc
      obtain ⟨y, hy, rfl⟩ := List.mem_map.1 hc
      exact h5 _ (List.mem_map.2 ⟨y, List.mem_of_mem_take (List.mem_of_mem_drop hy), rfl⟩)
    · by_cases he0 : (((l.take c).drop a).map f).flatten = []
      · refine .inl ⟨he0, ?_⟩
        by_cases hca : cap = a
        · intro _; omega
        · rw [if_neg hca]
          intro hn
          rcases h6 with ⟨_, h6⟩ | ⟨bb, oo, h6, _⟩
          · cases ad with
            | none => have := h6 rfl; omega
            | some ad => simp at hn
          · rw [h6] at hn; simp at hn
      · rcases h6 with ⟨h6, _⟩ | ⟨bb, oo, h6, h7, h8⟩
        · exfalso
          apply he0
          rw [List.map_drop, List.map_take, ← flatten_drop (k := k) a (fun cc hc => h5 cc (List.mem_of_mem_take hc)), ← flatten_take (k := k) c h5, h6]
          simp
        · refine .inr ⟨bb, oo + a * k, ?_, h7, ?_⟩
          · have : cap ≠ a := by
              intro e
              apply he0
              have : ((l.take c).drop a) = [] := List.drop_eq_nil_of_le (by rw [List.length_take]; omega)
              rw [this]; rfl
            rw [if_neg this, h6]; simp [Addr.add]
          · rw [List.map_drop, List.map_take, ← flatten_drop (k := k) a (fun cc hc => h5 cc (List.mem_of_mem_take hc)), ← flatten_take (k := k) c h5]
            exact (h8.take (c * k)).drop (a * k)) mem

/-! ### function values -/
def FnIs (fv : G) (f : FuncId) (cap : List G) : Prop := ∀ w M v, fv.p w M v → (G.fn (.func f) [] cap).p w M v
theorem fnis_fn {f : FuncId} {cap : List G} : FnIs (.fn (.func f) [] cap) f cap := fun _ _ _ h => h
theorem fnis_lit {f : FuncId} : FnIs (.lit (.func (.func f) #[] #[])) f [] := fun _ _ _ h => ⟨[], [], h, trivial, trivial⟩

/-- a call of a function value -/
theorem eff_callf {x : Operand} {f : FuncId} {ops : Array Operand} {ts : Array TypeId} {fv : G} {cap args : List G} {r : G} (ho : o.op = .call ⟨.value x, ops, ts⟩)
    (hf : FnIs fv f cap) (hk : Known E.P f) (hev : ev x = .g fv) (hc : Con E f (args ++ cap) r) (ha : ops.toList.map ev = args.map TV.g) (mem : Mem) : Eff E o mem ev (.g r) := by
  intro w0 M0 ρ w e hm hx
  obtain ⟨fn, k1, k2, k3⟩ := hk
  obtain ⟨fs, cs, hef, hfs, hcs⟩ : (G.fn (.func f) [] cap).p w (owned M0 ρ) (e x) := by
    have := hx x (by rw [ho]; simp [Op.operands, Call.operands])
    rw [hev] at this
    exact hf _ _ _ this
  obtain rfl : fs = [] := by cases fs with
    | nil => rfl
    | cons => exact hfs.elim
  have hv : FitsT w (owned M0 ρ) args (ops.toList.map e) := fits_of_ev (fun x hx' => hx x (by rw [ho]; simp [Op.operands, Call.operands]; exact .inr (by simpa using hx'))) ha
  have happ : ∀ {a b : List G} {va vb : List Value}, FitsT w (owned M0 ρ) a va → FitsT w (owned M0 ρ) b vb → FitsT w (owned M0 ρ) (a ++ b) (va ++ vb) := by
    intro a
    induction a with
    | nil => intro b va vb h1 h2; cases va with
      | nil => exact h2
      | cons => exact h1.elim
    | cons c a ih => intro b va vb h1 h2; cases va with
      | nil => exact h1.elim
      | cons v va => exact ⟨h1.1, ih h1.2 h2⟩
  refine upon_call hc hm (happ hv hcs) ?_
  simp [execOp, ho, resolve, hef, Deferred.ofValue, invoke, run_callFunc k1 k2 k3]

/-! ### lists, read from the front -/
theorem drop_cons {α : Type} {l rest : List α} {k : Nat} (h : l.drop k = rest) (hk : ((k : Nat) : Int) < (l.length : Int)) : ∃ x rest', rest = x :: rest' ∧ l[k]? = some x ∧ l.drop (k + 1) = rest' := by
  have hk : k < l.length := by omega
  refine ⟨l[k], l.drop (k + 1), ?_, by simp, rfl⟩
  rw [← h, List.drop_eq_getElem_cons hk]
theorem drop_nil {α : Type} {l rest : List α} {k : Nat} (h : l.drop k = rest) (hk : ¬ ((k : Nat) : Int) < (l.length : Int)) : rest = [] := by
  rw [← h]; exact List.drop_eq_nil_of_le (by omega)
abbrev cInt (n : Int) : List G := [G.int n]
abbrev cStr (s : ByteArray) : List G := [G.str s]
abbrev cBool (b : Bool) : List G := [G.bool b]
theorem len_sl {E : Env} {w0 : World} {M0 : Nat → Prop} {c : Code} {Q : Exit → ASt → Prop} {s : ASt} (t : Nat) {α : Type} {k : Nat} {l : List α} {f : α → List G} (h : s.get t = .g (.sl k (l.map f))) (hk : l.length ≤ 9223372036854775807 → AWp E w0 M0 c Q s) : AWp E w0 M0 c Q s :=
  aw_sl t h fun h' => hk (by rwa [List.length_map] at h')
theorem decT {p : Prop} [Decidable p] (h : decide p = true) : p := of_decide_eq_true h
theorem decF {p : Prop} [Decidable p] (h : decide p = false) : ¬ p := of_decide_eq_false h
end
end Go.Sim

namespace Go.Sim
section
variable {E : Env} {w0 : World} {M0 : Nat → Prop} {o : Oper} {ev : Operand → TV} {mem : Mem}

/-- a byte of a string -/
theorem eff_indexS {t : TypeId} {x ix : Operand} {s : ByteArray} {n : Int} {kk : IntKind} {b : UInt8} (ho : o.op = .index t x ix) (ht : E.P.underlying t = some .string) (hx : ev x = .g (.str s)) (hi : ev ix = .g (.lit (.int kk n))) (h0 : 0 ≤ n) (hb : s.data.toList[n.toNat]? = some b) (mem : Mem) :
    Eff E o mem ev (.g (.lit (.int .u8 (b.toNat : Int)))) :=
  eff_same (fun w M ρ e he => by
    have h1 := he x (by rw [ho]; simp [Op.operands])
    have h2 := he ix (by rw [ho]; simp [Op.operands])
    rw [hx] at h1; rw [hi] at h2
    have h1 : e x = .string s := h1
    have h2 : e ix = .int kk n := h2
    have hlt : n.toNat < s.data.toList.length := (List.getElem?_eq_some_iff.1 hb).1
    have hlt' : n.toNat < s.size := by rw [Array.length_toList] at hlt; exact hlt
    have hget : s[n.toNat]? = some b := by
      rw [getElem?_pos s n.toNat hlt']
      congr 1
      have := (List.getElem?_eq_some_iff.1 hb).2
      rw [← this]
      simp [ByteArray.getElem_eq_getElem_data]
    refine ⟨.int .u8 (b.toNat : Int), ?_, rfl⟩
    simp [execOp, ho, h1, h2, Instr.index, asIntOf, run_underlying ht, h0, hget]) mem

/-! ### a range over a string -/
theorem upon_newO {ρ : Rho} {w : World} {id : Nat} {blk : Blk} {ob : Obj} (hm : MRel E w0 M0 ρ mem w) (hf : lookO mem id = none) (hb : BRel (w.alloc ob) (owned M0 (rhoSet ρ id (some ⟨w.heap.size, 0, 0⟩))) (rhoSet ρ id (some ⟨w.heap.size, 0, 0⟩)) id blk) :
    ∃ ρ', MRel E w0 M0 ρ' ((id, blk) :: mem) (w.alloc ob) ∧ Kept M0 none ρ w ρ' (w.alloc ob) ∧ ρ' id = some (some ⟨w.heap.size, 0, 0⟩) := by
  have hr := rho_none hm hf
  obtain ⟨h1, h2⟩ := mrel_upd (id := id) (x := some ⟨w.heap.size, 0, 0⟩) (blk' := blk) none hm (diff_alloc ρ id w ob) (fun o ho => by cases ho; exact ⟨.inl (Nat.le_refl _), by simp⟩) (.inr ⟨rfl, .inl hr⟩) (fun _ b _ _ => noref_none b) hb
  exact ⟨_, h1, h2, rhoSet_same _ _ _⟩

/-- one own block turns -/
theorem upon_turn {ρ : Rho} {w : World} {id : Nat} {blk blk' : Blk} {ow : Own} {ob ob' : Obj} (hm : MRel E w0 M0 ρ mem w) (hl : lookO mem id = some blk) (hρ : ρ id = some (some ow)) (hg : w.heap[ow.b]? = some ob) (w' : World) (hw : w' = { w with heap := w.heap.setIfInBounds ow.b ob' })
    (hb : BRel w' (owned M0 (rhoSet ρ id (some ow))) (rhoSet ρ id (some ow)) id blk') : MRel E w0 M0 (rhoSet ρ id (some ow)) ((id, blk') :: mem) w' ∧ Kept M0 none ρ w (rhoSet ρ id (some ow)) w' := by
  subst hw
  have hd : Diff ρ id w { w with heap := w.heap.setIfInBounds ow.b ob' } := ⟨rfl, rfl, rfl, by simp, fun b _ hne => by
    have := hne ow hρ
    simp [Array.getElem?_setIfInBounds_ne (Ne.symm this)]⟩
  exact mrel_upd (id := id) (x := some ow) (blk' := blk') none hm hd (fun o ho => by cases ho; exact ⟨.inr ⟨ow, hρ, rfl⟩, by simpa using (hm.fresh id ow hρ).2⟩) (.inr ⟨rfl, .inr hρ⟩) (fun _ b _ _ => noref_none b) hb

theorem eff_rangeS {t : TypeId} {x : Operand} {s : ByteArray} (id : Nat) (ho : o.op = .range t x) (ht : E.P.underlying t = some .string) (hx : ev x = .g (.str s)) (hf : lookO mem id = none) : EffW E o mem ev (.ptr id 0) ((id, .it s 0) :: mem) none := by
  intro w0 M0 ρ w e hm he
  have h1 := he x (by rw [ho]; simp [Op.operands])
  rw [hx] at h1
  have h1 : e x = .string s := h1
  have hrun : (execOp e o).run E.P w = .ok (.value (.pointer (some ⟨w.heap.size, 0, none⟩))) (w.alloc (.stringIter s 0)) := by simp [execOp, ho, h1, Instr.range, run_underlying ht]
  rw [hrun]
  obtain ⟨ρ', k1, k2, k3⟩ := upon_newO (ob := .stringIter s 0) (blk := .it s 0) hm hf ⟨_, rhoSet_same _ _ _, rfl, heap_alloc_new w _⟩
  exact ⟨ρ', k1, k2, ⟨w.heap.size, 0, 0⟩, k3, rfl⟩

theorem iter_obj {ρ : Rho} {w : World} {id pos : Nat} {s : ByteArray} {v : Value} (hm : MRel E w0 M0 ρ mem w) (hb : lookO mem id = some (.it s pos)) (hv : TRel w (owned M0 ρ) ρ (.ptr id 0) v) : ∃ ow, ρ id = some (some ow) ∧ ow.o = 0 ∧ w.heap[ow.b]? = some (.stringIter s pos) ∧ v = .pointer (some ⟨ow.b, 0, none⟩) := by
  obtain ⟨ow, h1, h2⟩ := hv
  obtain ⟨ow', g1, g2, g3⟩ := hm.blk id _ hb
  have : ow' = ow := by rw [h1] at g1; simpa using g1.symm
  subst this
  exact ⟨ow', h1, g2, g3, by rw [h2, g2]⟩

theorem eff_nextE {i : Operand} {id pos : Nat} {s : ByteArray} (ho : o.op = .next i true) (hi : ev i = .ptr id 0) (hb : lookO mem id = some (.it s pos)) (hp : s.size ≤ pos) : Eff E o mem ev (.g (.tup [G.bool false])) := by
  intro w0 M0 ρ w e hm he
  have h1 := he i (by rw [ho]; simp [Op.operands])
  rw [hi] at h1
  obtain ⟨ow, g1, g2, g3, g4⟩ := iter_obj hm hb h1
  have hn : ¬ pos < s.size := by omega
  have hrun : (execOp e o).run E.P w = .ok (.value (.tuple #[.bool false])) w := by
    simp [execOp, ho, g4, Instr.next, getObj, Sem.run, g3, hn]
  rw [hrun]
  exact ⟨Grow.refl w, [.bool false], rfl, rfl, trivial⟩

theorem eff_nextG {i : Operand} {id pos : Nat} {s : ByteArray} (ho : o.op = .next i true) (hi : ev i = .ptr id 0) (hb : lookO mem id = some (.it s pos)) (hp : pos < s.size) :
    EffW E o mem ev (.g (.tup [G.bool true, G.int (pos : Int), G.lit (.int .i32 ((Utf8.decode s pos).1 : Int))])) ((id, .it s (pos + (Utf8.decode s pos).2)) :: mem) none := by
  intro w0 M0 ρ w e hm he
  have h1 := he i (by rw [ho]; simp [Op.operands])
  rw [hi] at h1
  obtain ⟨ow, g1, g2, g3, g4⟩ := iter_obj hm hb h1
  have hlt := (Array.getElem?_eq_some_iff.1 g3).1
  have hrun : (execOp e o).run E.P w = .ok (.value (.tuple #[.bool true, .int .i64 (pos : Int), .int .i32 ((Utf8.decode s pos).1 : Int)])) { w with heap := w.heap.setIfInBounds ow.b (.stringIter s (pos + (Utf8.decode s pos).2)) } := by
    simp [execOp, ho, g4, Instr.next, getObj, setObj, Sem.run, g3, hp, goInt]
  rw [hrun]
  obtain ⟨k1, k2⟩ := upon_turn (ob' := .stringIter s (pos + (Utf8.decode s pos).2)) (blk' := .it s (pos + (Utf8.decode s pos).2)) hm hb g1 g3 _ rfl ⟨ow, rhoSet_same _ _ _, g2, by simp [hlt]⟩
  exact ⟨_, k1, k2, _, rfl, rfl, rfl, rfl, trivial⟩

/-- a string's runes from a place on: place and rune -/
def runesF (s : ByteArray) : Nat → Nat → List (Int × Int)
  | 0, _ => []
  | n + 1, pos => if pos < s.size then ((pos : Int), ((Utf8.decode s pos).1 : Int)) :: runesF s n (pos + (Utf8.decode s pos).2) else []
def runes (s : ByteArray) : List (Int × Int) := runesF s s.size 0
def RunesAt (s : ByteArray) (pos : Nat) (l : List (Int × Int)) : Prop := ∃ n, s.size ≤ pos + n ∧ runesF s n pos = l
theorem decode_width (s : ByteArray) (i : Nat) : 1 ≤ (Utf8.decode s i).2 := by
  unfold Utf8.decode
  dsimp only
  repeat' split
  all_goals simp
theorem runesAt_start (s : ByteArray) : RunesAt s 0 (runes s) := ⟨s.size, by omega, rfl⟩
theorem runesAt_nil {s : ByteArray} {pos : Nat} (h : RunesAt s pos []) : s.size ≤ pos := by
  obtain ⟨n, h1, h2⟩ := h
  cases n with
  | zero => exact h1
  | succ n =>
    unfold runesF at h2
    split at h2
    · cases h2
    · omega
theorem runesAt_cons {s : ByteArray} {pos : Nat} {y : Int × Int} {t : List (Int × Int)} (h : RunesAt s pos (y :: t)) : pos < s.size ∧ y = ((pos : Int), ((Utf8.decode s pos).1 : Int)) ∧ RunesAt s (pos + (Utf8.decode s pos).2) t := by
  obtain ⟨n, h1, h2⟩ := h
  cases n with
  | zero => cases h2
  | succ n =>
    unfold runesF at h2
    split at h2
    · rename_i hp
      simp only [List.cons.injEq] at h2
      have := decode_width s pos
      exact ⟨hp, h2.1.symm, n, by omega, h2.2⟩
    · cases h2
end
end Go.Sim
namespace Go.Sim
section
variable {E : Env} {w0 : World} {M0 : Nat → Prop} {o : Oper} {ev : Operand → TV} {mem : Mem}
/-- one that reads memory of the call's own, under a guard -/
theorem st_gr {ops : Array Oper} {os : List Oper} {cs : List Cls} {s : ASt} {K : ASt → Prop} {r : TV} {d j e : Nat} {want gb : Bool} (hd : o.dst = some d) (hg : o.guard = some (j, want)) (hj : (ops[j]?).bind (·.dst) = some e) (hb : GB (s.get e) want gb) (he : gb = true → Eff E o s.mem (s.eval E) r)
    (hn : Nat.blt d s.n = true) (hk : AOps E ops os cs (s.put (some d) (bif gb then r else undefT)) K) : AOps E ops (o :: os) (.r :: cs) s K :=
  ⟨s.put (some d) (bif gb then r else undefT), ⟨fun d' h => by rw [hd] at h; cases h; exact Nat.le_of_ble_eq_true hn, gb, bif gb then r else undefT, s.mem, none, by unfold Wanted; rw [hg]; exact ⟨e, hj, hb⟩,
    fun h => ⟨rfl, rfl, by rw [h]; exact he h⟩, fun h => ⟨rfl, rfl, by rw [h]; rfl⟩, by rw [hd]; rfl⟩, hk⟩

def structB (P : Program) (t : TypeId) : Bool := match P.underlying t with | some (.struct _) => true | _ => false
theorem fits_lits_eq {w : World} {M : Nat → Prop} : ∀ {vs us : List Value}, Fits w M (vs.map G.lit) us → us = vs
  | [], [], _ => rfl
  | v :: vs, u :: us, h => by rw [show u = v from h.1.1, fits_lits_eq h.2]
  | [], _ :: _, h => h.elim
  | _ :: _, [], h => h.elim
theorem aeq_run {P : Program} {t : TypeId} {ks : List SK} {vs us : List Value} (hf : flatK P 60 t = some ks) (hs : structB P t = true) (hv : vs.map kindV = ks.map some) (hu : us.map kindV = ks.map some) (w : World) :
    (Op.equal t (.agg vs.toArray) (.agg us.toArray)).run P w = .ok (eqL vs us) w := by
  have := run_flat (P := P) 60 t ks vs us Op.maxDepth w hf (by decide) hv hu
  unfold structB at hs
  split at hs
  · rename_i fs hfs
    simp only [valOf, hfs] at this
    exact this
  · cases hs
theorem eff_aeq {op : BinOp} {t : TypeId} {x y : Operand} {t' : TypeId} {ks : List SK} (vs us : List Value) {b r : Bool} (ho : o.op = .binOp op t x y t') (hop : op = .eql ∧ r = b ∨ op = .neq ∧ r = !b) (hf : flatK E.P 60 t = some ks ∧ structB E.P t = true ∧ E.P.eqGuardType E.P.depth t = false) (hx : ev x = .g (.agg (vs.map G.lit))) (hy : ev y = .g (.agg (us.map G.lit)))
    (hv : vs.map kindV = ks.map some) (hu : us.map kindV = ks.map some) (hb : eqL vs us = b) (mem : Mem) : Eff E o mem ev (.g (.bool r)) :=
  eff_same (fun w M ρ e he => by
    obtain ⟨a1, a2, a3⟩ := hf
    have h1 := he x (by rw [ho]; simp [Op.operands])
    rw [hx] at h1
    obtain ⟨vs', h1, h1'⟩ := h1
    have := fits_lits_eq h1'; subst this
    have h2 := he y (by rw [ho]; simp [Op.operands])
    rw [hy] at h2
    obtain ⟨us', h2, h2'⟩ := h2
    have := fits_lits_eq h2'; subst this
    have hr := aeq_run (P := E.P) a1 a2 hv hu w
    rw [hb] at hr
    refine ⟨.bool r, ?_, rfl⟩
    rcases hop with ⟨rfl, rfl⟩ | ⟨rfl, rfl⟩ <;>
      simp [execOp, ho, h1, h2, eqGuard, a3, binOp, hr]) mem
theorem eff_aeql {t : TypeId} {x y : Operand} {t' : TypeId} {ks : List SK} (vs us : List Value) {b : Bool} (ho : o.op = .binOp .eql t x y t') (hf : flatK E.P 60 t = some ks ∧ structB E.P t = true ∧ E.P.eqGuardType E.P.depth t = false) (hx : ev x = .g (.agg (vs.map G.lit))) (hy : ev y = .g (.agg (us.map G.lit)))
    (hv : vs.map kindV = ks.map some) (hu : us.map kindV = ks.map some) (hb : eqL vs us = b) (mem : Mem) : Eff E o mem ev (.g (.bool b)) := eff_aeq vs us ho (.inl ⟨rfl, rfl⟩) hf hx hy hv hu hb mem
theorem eff_aneq {t : TypeId} {x y : Operand} {t' : TypeId} {ks : List SK} (vs us : List Value) {b : Bool} (ho : o.op = .binOp .neq t x y t') (hf : flatK E.P 60 t = some ks ∧ structB E.P t = true ∧ E.P.eqGuardType E.P.depth t = false) (hx : ev x = .g (.agg (vs.map G.lit))) (hy : ev y = .g (.agg (us.map G.lit)))
    (hv : vs.map kindV = ks.map some) (hu : us.map kindV = ks.map some) (hb : eqL vs us = b) (mem : Mem) : Eff E o mem ev (.g (.bool !b)) := eff_aeq vs us ho (.inr ⟨rfl, rfl⟩) hf hx hy hv hu hb mem
theorem drop_consB {s : ByteArray} {rest : List UInt8} {k : Nat} (h : s.data.toList.drop k = rest) (hk : ((k : Nat) : Int) < (ByteArray.size s : Int)) : ∃ x rest', rest = x :: rest' ∧ s.data.toList[k]? = some x ∧ s.data.toList.drop (k + 1) = rest' :=
  drop_cons h (by rw [Array.length_toList]; exact hk)
theorem drop_nilB {s : ByteArray} {rest : List UInt8} {k : Nat} (h : s.data.toList.drop k = rest) (hk : ¬ ((k : Nat) : Int) < (ByteArray.size s : Int)) : rest = [] :=
  drop_nil h (by rw [Array.length_toList]; exact hk)
end
end Go.Sim
namespace Go.Sim
theorem eff_nextY {E : Env} {o : Oper} {ev : Operand → TV} {mem : Mem} {i : Operand} {id pos : Nat} {s : ByteArray} {y : Int × Int} (ho : o.op = .next i true) (hi : ev i = .ptr id 0) (hb : lookO mem id = some (.it s pos)) (hp : pos < s.size) (hy : y = ((pos : Int), ((Utf8.decode s pos).1 : Int))) :
    EffW E o mem ev (.g (.tup [G.bool true, G.int y.1, G.lit (.int .i32 y.2)])) ((id, .it s (pos + (Utf8.decode s pos).2)) :: mem) none := by
  subst hy; exact eff_nextG ho hi hb hp
end Go.Sim
namespace Go.Sim
section
variable {E : Env} {o : Oper} {ev : Operand → TV}
def shrI (a b : Int) : Int := a.fdiv (2 ^ (min b.toNat 64))
def shlI (a b : Int) : Int := IntKind.i64.wrap (a * 2 ^ (min b.toNat 64))
def andI (a b : Int) : Int := IntKind.i64.wrap ((BitVec.ofInt 64 a &&& BitVec.ofInt 64 b).toNat : Int)
def orI (a b : Int) : Int := IntKind.i64.wrap ((BitVec.ofInt 64 a ||| BitVec.ofInt 64 b).toNat : Int)
theorem eff_and2 {t t' : TypeId} {x y : Operand} {a b : Int} (ho : o.op = .binOp .and t x y t') (hx : ev x = .g (.int a)) (hy : ev y = .g (.int b)) (mem : Mem) : Eff E o mem ev (.g (.int (andI a b))) :=
  eff_int ho hx hy rfl mem
theorem eff_or2 {t t' : TypeId} {x y : Operand} {a b : Int} (ho : o.op = .binOp .or t x y t') (hx : ev x = .g (.int a)) (hy : ev y = .g (.int b)) (mem : Mem) : Eff E o mem ev (.g (.int (orI a b))) :=
  eff_int ho hx hy rfl mem
theorem eff_shr {t t' : TypeId} {x y : Operand} {k : IntKind} {a b : Int} (ho : o.op = .binOp .shr t x y t') (hx : ev x = .g (.int a)) (hy : ev y = .g (.lit (.int k b))) (h0 : 0 ≤ b) (mem : Mem) : Eff E o mem ev (.g (.int (shrI a b))) :=
  eff_bin ho hx hy (fun w => ⟨.int .i64 (shrI a b), by
    have : ¬ b < 0 := by omega
    simp [eqGuard, binOp, Op.shift, this, shrI]
    rfl, fun _ => rfl⟩) mem
theorem eff_shl {t t' : TypeId} {x y : Operand} {k : IntKind} {a b : Int} (ho : o.op = .binOp .shl t x y t') (hx : ev x = .g (.int a)) (hy : ev y = .g (.lit (.int k b))) (h0 : 0 ≤ b) (mem : Mem) : Eff E o mem ev (.g (.int (shlI a b))) :=
  eff_bin ho hx hy (fun w => ⟨.int .i64 (shlI a b), by
    have : ¬ b < 0 := by omega
    simp [eqGuard, binOp, Op.shift, this, shlI]
    rfl, fun _ => rfl⟩) mem
end
end Go.Sim
namespace Go.Sim
theorem eff_quow {E : Env} {o : Oper} {ev : Operand → TV} {t t' : TypeId} {x y : Operand} {a b : Int} (ho : o.op = .binOp .quo t x y t') (hx : ev x = .g (.int a)) (hy : ev y = .g (.int b)) (hb : b ≠ 0) (mem : Mem) : Eff E o mem ev (.g (.int (IntKind.i64.wrap (a.tdiv b)))) :=
  eff_int ho hx hy (by rw [binOp_quo, Op.intDiv, if_neg hb]) mem
end Go.Sim

namespace Go.Sim
open Go.Proofs
def sv (l : List UInt8) : Value := .string ⟨l.toArray⟩
def statusCells : List Value := [sv [114, 101, 116, 117, 114, 110, 101, 100], sv [102, 108, 111, 119, 110], sv [101, 120, 99, 117, 115, 101, 100], sv [109, 105, 115, 115, 101, 100]]
def lengthCells : List Value := [31, 28, 31, 30, 31, 30, 31, 31, 30, 31, 30, 31].map (.int .i64 ·)
noncomputable def EE : Env := ⟨Tryz.prog, [(0, statusCells), (1, lengthCells)], by kernel_rfl⟩
end Go.Sim

namespace Go.Sim
open Go.Proofs
abbrev glT : List (Nat × List Value) := [(0, statusCells), (1, lengthCells)]
theorem tryzOrders : Tryz.prog.follows .mixedOrders = true := by kernel_rfl
noncomputable abbrev EG (g : List (Nat × List Value)) : Env := ⟨Tryz.prog, g, tryzOrders⟩
end Go.Sim

namespace Go.Sim
def eqAnd : List Bool → Bool
  | [] => true
  | b :: l => b && eqAnd l
def ixO {α : Type} (l : List α) (i : Int) : Option α := bif decide (0 ≤ i) then l[i.toNat]? else none
theorem ixO_nn {α : Type} {l : List α} {i : Int} {x : α} (h : ixO l i = some x) : 0 ≤ i := by
  unfold ixO at h
  cases hd : decide (0 ≤ i) with
  | true => exact of_decide_eq_true hd
  | false => rw [hd] at h; cases h
theorem ixO_get {α : Type} {l : List α} {i : Int} {x : α} (h : ixO l i = some x) : l[i.toNat]? = some x := by
  have := ixO_nn h
  unfold ixO at h
  rw [decide_eq_true this] at h; exact h
theorem le_get {α : Type} {l : List α} {k : Nat} {x : α} (h : l[k]? = some x) : ((k : Nat) : Int).toNat ≤ l.length := by
  have := (List.getElem?_eq_some_iff.1 h).1
  simp; omega
theorem rv_viewL {E : Env} {s : ASt} {t id k : Nat} {e : TypeId} {α : Type} {f : α → List G} {l : List α} (h : s.get t = .osl id k 0 l.length) (hb : lookO s.mem id = some (.arr e k (l.map f))) : RVal E s (.tmp t) (.sl k (l.map f)) := by
  refine rv_view ?_
  rw [h]
  simp [viewG, hb]
  rw [show l.length = (l.map f).length by simp, List.take_length]
theorem rv_nilG {E : Env} {s : ASt} {t : Nat} {x : G} (h : s.get t = .g (.lit (.slice none 0 0))) (hx : ∀ w M, x.p w M (.slice none 0 0)) : RVal E s (.tmp t) x := by
  intro w0 M0 ρ w tmps hm ht
  refine ⟨tmps.getD t undef, rfl, ?_⟩
  have := ht t
  rw [h] at this
  rw [show tmps.getD t undef = _ from this]
  exact hx _ _
theorem nil_sl (k : Nat) : ∀ w M, (G.sl k []).p w M (.slice none 0 0) := fun _ _ => ⟨none, 0, rfl, Nat.le_refl _, Nat.zero_le _, by simp, .inl ⟨rfl, fun _ => rfl⟩⟩
theorem agv_nil {ev : Operand → TV} {mem : Mem} : List.map (fun x => viewG mem (ev x)) [] = List.map some [] := rfl
theorem agv_cons {ev : Operand → TV} {mem : Mem} {x : Operand} {xs : List Operand} {y : G} {ys : List G} (h : ev x = .g y) (k : List.map (fun x => viewG mem (ev x)) xs = List.map some ys) : List.map (fun x => viewG mem (ev x)) (x :: xs) = List.map some (y :: ys) := by
  simp only [List.map_cons]; rw [h, k]; rfl
theorem agv_osl {ev : Operand → TV} {mem : Mem} {x : Operand} {xs : List Operand} {ys : List G} {id k : Nat} {e : TypeId} {α : Type} {f : α → List G} {l : List α} (h : ev x = .osl id k 0 l.length) (hb : lookO mem id = some (.arr e k (l.map f))) (kk : List.map (fun x => viewG mem (ev x)) xs = List.map some ys) :
    List.map (fun x => viewG mem (ev x)) (x :: xs) = List.map some (.sl k (l.map f) :: ys) := by
  simp only [List.map_cons]
  rw [h, kk]
  congr 1
  simp [viewG, hb]
  rw [show l.length = (l.map f).length by simp, List.take_length]
end Go.Sim

