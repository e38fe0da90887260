/-
  What is proved: laws for strings, tables, loops over lists, lent blocks, made slices and maps.
-/
import Derived.Test.YtdfgeoefbbkcnaaGreatDoorVaA1
import Derived.Test.YtdfgeoefbbkcnaaGreatDoorProg
import Derived.Laws.MakeOwn
import Derived.Scope
import Derived.Maps.RangeRun
set_option linter.unusedSectionVars false
set_option linter.unusedSimpArgs false
set_option linter.unusedVariables false
set_option linter.unnecessarySimpa false
set_option linter.deprecated false
namespace Go.Sim
section
variable {E : Env} {w0 : World} {M0 : Nat → Prop} {Q : Exit → ASt → Prop} {s : ASt}

/-- a cut: what is behind is walked once, at a family of states -/
theorem aw_cut_g {γ : Type} {x y : Code} (S : γ → List (Nat × TV) × Mem) (P : γ → Prop) (h : AWp E w0 M0 x (athen (Goes S P s.n (fun _ => True)) Q) s) (k : ∀ g, P g → AWp E w0 M0 y Q (stt s.n (S g).1 (S g).2)) (hbw : ∀ g, bowIn E (S g).2 = true := by intro _; rfl) : AWp E w0 M0 (.seq x y) Q s := by
  refine aw_seq (h.mono fun e s' hq => ?_)
  cases e <;> try exact hq
  obtain ⟨h0, g, h1, h2, h3, h4, _⟩ := hq
  refine aw_weak h1 h2 h3 ?_ (hbw _)
  rw [h0]
  exact k g h4

theorem condT {α : Type} {c : Bool} {a b r : α} (h : (bif c then a else b) = r) (h1 : c = true) : a = r := by rw [h1] at h; exact h
theorem condF {α : Type} {c : Bool} {a b r : α} (h : (bif c then a else b) = r) (h1 : c = false) : b = r := by rw [h1] at h; exact h
def bindO {α β : Type} (x : Option α) (k : α → Option β) : Option β := match x with | some a => k a | none => none
theorem bindO_inv {α β : Type} {x : Option α} {k : α → Option β} {r : β} (h : bindO x k = some r) : ∃ a, x = some a ∧ k a = some r := by
  cases x with
  | none => cases h
  | some a => exact ⟨a, rfl, h⟩

variable {o : Oper} {ev : Operand → TV} {mem : Mem}
theorem eff_lenM {α : Type} {t el : TypeId} {x : Operand} {k : Nat} {l : List α} {f : α → List G} (ho : o.op = .call ⟨.builtin .len, #[x], #[t]⟩)
    (ht : E.P.underlying t = some (.slice el)) (hx : ev x = .g (.sl k (l.map f))) (mem : Mem) : Eff E o mem ev (.g (.int (l.length : Int))) := by
  have := eff_len ho ht hx mem
  rwa [List.length_map] at this
theorem eff_lenO0 {t el : TypeId} {x : Operand} {id k hi : Nat} (ho : o.op = .call ⟨.builtin .len, #[x], #[t]⟩) (ht : E.P.underlying t = some (.slice el)) (hx : ev x = .osl id k 0 hi) (mem : Mem) : Eff E o mem ev (.g (.int (hi : Int))) := eff_lenO ho ht hx mem

/-- the nil slice, as a slice of the call's own -/
theorem eff_nilL {z : Operand} (id : Nat) (e : TypeId) (k : Nat) (ho : o.op = .assign z) (hz : ev z = .g (.lit (.slice none 0 0))) (hf : lookO mem id = none) : EffW E o mem ev (.osl id k 0 0) ((id, .arr e k []) :: mem) none := by
  intro w0 M0 ρ w e' hm he
  have h1 := he z (by rw [ho]; simp [Op.operands])
  rw [hz] at h1
  have h1' : e' z = .slice none 0 0 := h1
  have hr := rho_none hm hf
  obtain ⟨k1, k2⟩ := mrel_upd (id := id) (x := none) (blk' := .arr e k []) none hm ⟨rfl, rfl, rfl, Nat.le_refl _, fun _ _ _ => rfl⟩ (fun _ h => by cases h) (.inr ⟨rfl, .inl hr⟩) (fun _ b _ _ => noref_none b) (.inl rfl) (.inl ⟨rhoSet_same _ _ _, rfl⟩)
  have hrun : (execOp e' o).run E.P w = .ok (.value (.slice none 0 0)) w := by simp [execOp, ho, h1']
  rw [hrun]
  exact ⟨_, k1, k2, .inl ⟨rhoSet_same _ _ _, rfl, rfl, rfl⟩⟩

/-- 'append' to a slice of the call's own, by the lists' elements -/
theorem eff_appL {α : Type} {f : α → List G} {out new : List α} {s x : Operand} {t e : TypeId} {k by_ id : Nat} (ho : o.op = .call ⟨.builtin .append, #[s, x], #[t, t]⟩) (ha : appK E.P t = some (e, k + 1, by_ + 1)) (hs : ev s = .osl id (k + 1) 0 out.length)
    (hx : lookO mem id = some (.arr e (k + 1) (out.map f))) (hsrc : SrcT E mem (k + 1) (new.map f) (ev x)) (hrefs : ∀ i blk, lookO mem i = some blk → i ≠ id → blk.noref (some id) = true) (hb : (out.length + new.length) * (by_ + 1) ≤ 140737488355328) (hbw : lookO E.bow id = none := by rfl) :
    EffW E o mem ev (.osl id (k + 1) 0 (out ++ new).length) ((id, .arr e (k + 1) ((out ++ new).map f)) :: mem) (some id) := by
  have := eff_appO ho ha hs hx (Nat.zero_le _) (by simp) hsrc hrefs (by simpa using hb) hbw
  simpa using this

/-- an element of a slice that is read -/
theorem eff_ix {α : Type} {t el : TypeId} {x ix : Operand} {k : Nat} {b : Bool} {kk : IntKind} {n : Int} {l : List α} {f : α → List G} {a : α} (ho : o.op = .indexAddr t x ix) (ht : E.P.underlying t = some (.slice el)) (he : tyK E.P el = some (k + 1, b)) (hx : ev x = .g (.sl (k + 1) (l.map f)))
    (hi : ev ix = .g (.lit (.int kk n))) (h0 : 0 ≤ n) (ha : l[n.toNat]? = some a) (mem : Mem) : Eff E o mem ev (.g (.ref (f a))) :=
  eff_indexAddr ho ht he hx hi h0 (by rw [List.getElem?_map, ha]; rfl) mem

theorem run_slBound {P : Program} {k : IntKind} {n tp : Nat} {w : World} (hn : n ≤ tp) (code : BoundsCode) : (Instr.sliceBound (.int k (n : Int)) tp code).run P w = .ok n w := by
  have : (0 : Int) ≤ (n : Int) ∧ (n : Int) ≤ (tp : Int) := by omega
  simp [Instr.sliceBound, asIntOf, this]

/-- a bound of a slice expression: what it comes to -/
def BndV (ev : Operand → TV) (x : Option Operand) (a d : Nat) : Prop := match x with
  | none => a = d
  | some y => ∃ kk, ev y = .g (.lit (.int kk (a : Int)))
theorem bnd_none {d : Nat} : BndV ev none d d := rfl
theorem bnd_some {y : Operand} {kk : IntKind} {n : Int} {d : Nat} (h : ev y = .g (.lit (.int kk n))) (h0 : 0 ≤ n) : BndV ev (some y) n.toNat d := ⟨kk, by rw [h, Int.toNat_of_nonneg h0]⟩

theorem run_slBounds {P : Program} {w : World} {e' : Operand → Value} {ρ : Rho} {M : Nat → Prop} {lo hi : Option Operand} {len cap a c : Nat} {isS : Bool} (hlo : BndV ev lo a 0) (hhi : BndV ev hi c len) (hac : a ≤ c) (hcl : c ≤ len) (hlc : len ≤ cap)
    (he : ∀ y, (lo = some y ∨ hi = some y) → TRel w M ρ (ev y) (e' y)) : (Instr.sliceBounds isS len cap (lo.map e') (hi.map e') none).run P w = .ok (a, c, cap) w := by
  have key : (∃ k, hi.map e' = some (.int k (c : Int))) ∨ (hi.map e' = none ∧ c = len) := by
    cases hi with
    | none => exact .inr ⟨rfl, hhi⟩
    | some y =>
      obtain ⟨kk, h⟩ := hhi
      have := he y (.inr rfl)
      rw [h] at this
      exact .inl ⟨kk, by rw [Option.map_some, show e' y = _ from this]⟩
  have key2 : (∃ k, lo.map e' = some (.int k (a : Int))) ∨ (lo.map e' = none ∧ a = 0) := by
    cases lo with
    | none => exact .inr ⟨rfl, hlo⟩
    | some y =>
      obtain ⟨kk, h⟩ := hlo
      have := he y (.inl rfl)
      rw [h] at this
      exact .inl ⟨kk, by rw [Option.map_some, show e' y = _ from this]⟩
  rcases key with ⟨k, h1⟩ | ⟨h1, rfl⟩ <;> rcases key2 with ⟨k2, h2⟩ | ⟨h2, rfl⟩ <;> rw [h1, h2] <;>
    simp [Instr.sliceBounds, run_slBound (P := P) (w := w) hac, run_slBound (P := P) (w := w) (show c ≤ cap by omega), run_slBound (P := P) (w := w) hlc]

/-- a slice of a slice that is read -/
theorem eff_slG {α : Type} {f : α → List G} {l : List α} {t el : TypeId} {x : Operand} {lo hi : Option Operand} {k a c : Nat} {b : Bool} (ho : o.op = .slice t x lo hi none) (ht : E.P.underlying t = some (.slice el)) (hk : tyK E.P el = some (k, b)) (hx : ev x = .g (.sl k (l.map f)))
    (hlo : BndV ev lo a 0) (hhi : BndV ev hi c l.length) (hac : a ≤ c) (hcl : c ≤ l.length) (mem : Mem) : Eff E o mem ev (.g (.sl k (((l.take c).drop a).map f))) :=
  eff_same (fun w M ρ e' he => by
    have h1 := he x (by rw [ho]; simp [Op.operands])
    rw [hx] at h1
    obtain ⟨ad, cap, h2, h3, h4, h5, h6⟩ := h1
    rw [List.length_map] at h2 h3
    have hb := run_slBounds (P := E.P) (isS := true) (w := w) (e' := e') (ρ := ρ) (M := M) hlo hhi hac hcl h3 (fun y hy => he y (by
      rw [ho]
      rcases hy with rfl | rfl <;> simp [Op.operands]))
    refine ⟨.slice (if cap = a then ad else ad.map (·.add (a * k))) (c - a) (cap - a), ?_, (if cap = a then ad else ad.map (·.add (a * k))), cap - a, ?_, ?_, by omega, ?_, ?_⟩
    · simp only [execOp, ho, h2, Instr.sliceAt, Instr.slice, Sem.run_bind, Sem.run_map, run_underlying ht, Result.andThen_ok, Option.map_none, hb, run_sizeOf hk, Sem.run_pure]
    · rw [List.length_map, List.length_drop, List.length_take]; congr 1; omega
    · rw [List.length_map, List.length_drop, List.length_take]; omega
    · intro cc hc
      obtain ⟨y, hy, rfl⟩ := List.mem_map.1 hc
      exact h5 _ (List.mem_map.2 ⟨y, List.mem_of_mem_take (List.mem_of_mem_drop hy), rfl⟩)
    · by_cases he0 : (((l.take c).drop a).map f).flatten = []
      · refine .inl ⟨he0, ?_⟩
        by_cases hca : cap = a
        · intro _; omega
        · rw [if_neg hca]
          intro hn
          rcases h6 with ⟨_, h6⟩ | ⟨bb, oo, h6, _⟩
          · cases ad with
            | none => have := h6 rfl; omega
            | some ad => simp at hn
          · rw [h6] at hn; simp at hn
      · rcases h6 with ⟨h6, _⟩ | ⟨bb, oo, h6, h7, h8⟩
        · exfalso
          apply he0
          rw [List.map_drop, List.map_take, ← flatten_drop (k := k) a (fun cc hc => h5 cc (List.mem_of_mem_take hc)), ← flatten_take (k := k) c h5, h6]
          simp
        · refine .inr ⟨bb, oo + a * k, ?_, h7, ?_⟩
          · have : cap ≠ a := by
              intro e
              apply he0
              have : ((l.take c).drop a) = [] := List.drop_eq_nil_of_le (by rw [List.length_take]; omega)
              rw [this]; rfl
            rw [if_neg this, h6]; simp [Addr.add]
          · rw [List.map_drop, List.map_take, ← flatten_drop (k := k) a (fun cc hc => h5 cc (List.mem_of_mem_take hc)), ← flatten_take (k := k) c h5]
            exact (h8.take (c * k)).drop (a * k)) mem

/-! ### function values -/
def FnIs (fv : G) (f : FuncId) (cap : List G) : Prop := ∀ w M v, fv.p w M v → (G.fn (.func f) [] cap).p w M v
theorem fnis_fn {f : FuncId} {cap : List G} : FnIs (.fn (.func f) [] cap) f cap := fun _ _ _ h => h
theorem fnis_lit {f : FuncId} : FnIs (.lit (.func (.func f) #[] #[])) f [] := fun _ _ _ h => ⟨[], [], h, trivial, trivial⟩

/-- a call of a function value -/
theorem eff_callf {x : Operand} {f : FuncId} {ops : Array Operand} {ts : Array TypeId} {fv : G} {cap args : List G} {r : G} (ho : o.op = .call ⟨.value x, ops, ts⟩)
    (hf : FnIs fv f cap) (hk : Known E.P f) (hev : ev x = .g fv) (hc : Con E f (args ++ cap) r) (ha : ops.toList.map ev = args.map TV.g) (mem : Mem) : Eff E o mem ev (.g r) := by
  intro w0 M0 ρ w e hm hx
  obtain ⟨fn, k1, k2, k3⟩ := hk
  obtain ⟨fs, cs, hef, hfs, hcs⟩ : (G.fn (.func f) [] cap).p w (owned M0 ρ) (e x) := by
    have := hx x (by rw [ho]; simp [Op.operands, Call.operands])
    rw [hev] at this
    exact hf _ _ _ this
  obtain rfl : fs = [] := by cases fs with
    | nil => rfl
    | cons => exact hfs.elim
  have hv : FitsT w (owned M0 ρ) args (ops.toList.map e) := fits_of_ev (fun x hx' => hx x (by rw [ho]; simp [Op.operands, Call.operands]; exact .inr (by simpa using hx'))) ha
  have happ : ∀ {a b : List G} {va vb : List Value}, FitsT w (owned M0 ρ) a va → FitsT w (owned M0 ρ) b vb → FitsT w (owned M0 ρ) (a ++ b) (va ++ vb) := by
    intro a
    induction a with
    | nil => intro b va vb h1 h2; cases va with
      | nil => exact h2
      | cons => exact h1.elim
    | cons c a ih => intro b va vb h1 h2; cases va with
      | nil => exact h1.elim
      | cons v va => exact ⟨h1.1, ih h1.2 h2⟩
  refine upon_call hc hm (happ hv hcs) ?_
  simp [execOp, ho, resolve, hef, Deferred.ofValue, invoke, run_callFunc k1 k2 k3]

/-! ### lists, read from the front -/
theorem drop_cons {α : Type} {l rest : List α} {k : Nat} (h : l.drop k = rest) (hk : ((k : Nat) : Int) < (l.length : Int)) : ∃ x rest', rest = x :: rest' ∧ l[k]? = some x ∧ l.drop (k + 1) = rest' := by
  have hk : k < l.length := by omega
  refine ⟨l[k], l.drop (k + 1), ?_, by simp, rfl⟩
  rw [← h, List.drop_eq_getElem_cons hk]
theorem drop_nil {α : Type} {l rest : List α} {k : Nat} (h : l.drop k = rest) (hk : ¬ ((k : Nat) : Int) < (l.length : Int)) : rest = [] := by
  rw [← h]; exact List.drop_eq_nil_of_le (by omega)
abbrev cInt (n : Int) : List G := [G.int n]
abbrev cStr (s : ByteArray) : List G := [G.str s]
abbrev cBool (b : Bool) : List G := [G.bool b]
theorem len_sl {E : Env} {w0 : World} {M0 : Nat → Prop} {c : Code} {Q : Exit → ASt → Prop} {s : ASt} (t : Nat) {α : Type} {k : Nat} {l : List α} {f : α → List G} (h : s.get t = .g (.sl k (l.map f))) (hk : l.length ≤ 9223372036854775807 → AWp E w0 M0 c Q s) : AWp E w0 M0 c Q s :=
  aw_sl t h fun h' => hk (by rwa [List.length_map] at h')
theorem decT {p : Prop} [Decidable p] (h : decide p = true) : p := of_decide_eq_true h
theorem decF {p : Prop} [Decidable p] (h : decide p = false) : ¬ p := of_decide_eq_false h
end
end Go.Sim

namespace Go.Sim
section
variable {E : Env} {w0 : World} {M0 : Nat → Prop} {o : Oper} {ev : Operand → TV} {mem : Mem}

/-- a byte of a string -/
theorem eff_indexS {t : TypeId} {x ix : Operand} {s : ByteArray} {n : Int} {kk : IntKind} {b : UInt8} (ho : o.op = .index t x ix) (ht : E.P.underlying t = some .string) (hx : ev x = .g (.str s)) (hi : ev ix = .g (.lit (.int kk n))) (h0 : 0 ≤ n) (hb : s.data.toList[n.toNat]? = some b) (mem : Mem) :
    Eff E o mem ev (.g (.lit (.int .u8 (b.toNat : Int)))) :=
  eff_same (fun w M ρ e he => by
    have h1 := he x (by rw [ho]; simp [Op.operands])
    have h2 := he ix (by rw [ho]; simp [Op.operands])
    rw [hx] at h1; rw [hi] at h2
    have h1 : e x = .string s := h1
    have h2 : e ix = .int kk n := h2
    have hlt : n.toNat < s.data.toList.length := (List.getElem?_eq_some_iff.1 hb).1
    have hlt' : n.toNat < s.size := by rw [Array.length_toList] at hlt; exact hlt
    have hget : s[n.toNat]? = some b := by
      rw [getElem?_pos s n.toNat hlt']
      congr 1
      have := (List.getElem?_eq_some_iff.1 hb).2
      rw [← this]
      simp [ByteArray.getElem_eq_getElem_data]
    refine ⟨.int .u8 (b.toNat : Int), ?_, rfl⟩
    simp [execOp, ho, h1, h2, Instr.index, asIntOf, run_underlying ht, h0, hget]) mem

/-! ### a range over a string -/
theorem upon_newO {ρ : Rho} {w : World} {id : Nat} {blk : Blk} {ob : Obj} (hm : MRel E w0 M0 ρ mem w) (hf : lookO mem id = none) (hb : BRel (w.alloc ob) (owned M0 (rhoSet ρ id (some ⟨w.heap.size, 0, 0⟩))) (rhoSet ρ id (some ⟨w.heap.size, 0, 0⟩)) id blk) :
    ∃ ρ', MRel E w0 M0 ρ' ((id, blk) :: mem) (w.alloc ob) ∧ Kept M0 none ρ w ρ' (w.alloc ob) ∧ ρ' id = some (some ⟨w.heap.size, 0, 0⟩) := by
  have hr := rho_none hm hf
  obtain ⟨h1, h2⟩ := mrel_upd (id := id) (x := some ⟨w.heap.size, 0, 0⟩) (blk' := blk) none hm (diff_alloc ρ id w ob) (fun o ho => by cases ho; exact ⟨.inl (Nat.le_refl _), by simp⟩) (.inr ⟨rfl, .inl hr⟩) (fun _ b _ _ => noref_none b) (.inl rfl) hb
  exact ⟨_, h1, h2, rhoSet_same _ _ _⟩

/-- one own block turns -/
theorem upon_turn {ρ : Rho} {w : World} {id : Nat} {blk blk' : Blk} {ow : Own} {ob ob' : Obj} (hm : MRel E w0 M0 ρ mem w) (hl : lookO mem id = some blk) (hρ : ρ id = some (some ow)) (hg : w.heap[ow.b]? = some ob) (w' : World) (hw : w' = { w with heap := w.heap.setIfInBounds ow.b ob' })
    (hb : BRel w' (owned M0 (rhoSet ρ id (some ow))) (rhoSet ρ id (some ow)) id blk') : MRel E w0 M0 (rhoSet ρ id (some ow)) ((id, blk') :: mem) w' ∧ Kept M0 none ρ w (rhoSet ρ id (some ow)) w' := by
  subst hw
  have hd : Diff ρ id w { w with heap := w.heap.setIfInBounds ow.b ob' } := ⟨rfl, rfl, rfl, by simp, fun b _ hne => by
    have := hne ow hρ
    simp [Array.getElem?_setIfInBounds_ne (Ne.symm this)]⟩
  exact mrel_upd (id := id) (x := some ow) (blk' := blk') none hm hd (fun o ho => by cases ho; exact ⟨.inr ⟨ow, hρ, rfl⟩, by simpa using (hm.fresh id ow hρ).2⟩) (.inr ⟨rfl, .inr hρ⟩) (fun _ b _ _ => noref_none b) (.inl rfl) hb

theorem eff_rangeS {t : TypeId} {x : Operand} {s : ByteArray} (id : Nat) (ho : o.op = .range t x) (ht : E.P.underlying t = some .string) (hx : ev x = .g (.str s)) (hf : lookO mem id = none) : EffW E o mem ev (.ptr id 0) ((id, .it s 0) :: mem) none := by
  intro w0 M0 ρ w e hm he
  have h1 := he x (by rw [ho]; simp [Op.operands])
  rw [hx] at h1
  have h1 : e x = .string s := h1
  have hrun : (execOp e o).run E.P w = .ok (.value (.pointer (some ⟨w.heap.size, 0, none⟩))) (w.alloc (.stringIter s 0)) := by simp [execOp, ho, h1, Instr.range, run_underlying ht]
  rw [hrun]
  obtain ⟨ρ', k1, k2, k3⟩ := upon_newO (ob := .stringIter s 0) (blk := .it s 0) hm hf ⟨_, rhoSet_same _ _ _, rfl, heap_alloc_new w _⟩
  exact ⟨ρ', k1, k2, ⟨w.heap.size, 0, 0⟩, k3, rfl⟩

theorem iter_obj {ρ : Rho} {w : World} {id pos : Nat} {s : ByteArray} {v : Value} (hm : MRel E w0 M0 ρ mem w) (hb : lookO mem id = some (.it s pos)) (hv : TRel w (owned M0 ρ) ρ (.ptr id 0) v) : ∃ ow, ρ id = some (some ow) ∧ ow.o = 0 ∧ w.heap[ow.b]? = some (.stringIter s pos) ∧ v = .pointer (some ⟨ow.b, 0, none⟩) := by
  obtain ⟨ow, h1, h2⟩ := hv
  obtain ⟨ow', g1, g2, g3⟩ := hm.blk id _ hb
  have : ow' = ow := by rw [h1] at g1; simpa using g1.symm
  subst this
  exact ⟨ow', h1, g2, g3, by rw [h2, g2]⟩

theorem eff_nextE {i : Operand} {id pos : Nat} {s : ByteArray} (ho : o.op = .next i true) (hi : ev i = .ptr id 0) (hb : lookO mem id = some (.it s pos)) (hp : s.size ≤ pos) : Eff E o mem ev (.g (.tup [G.bool false])) := by
  intro w0 M0 ρ w e hm he
  have h1 := he i (by rw [ho]; simp [Op.operands])
  rw [hi] at h1
  obtain ⟨ow, g1, g2, g3, g4⟩ := iter_obj hm hb h1
  have hn : ¬ pos < s.size := by omega
  have hrun : (execOp e o).run E.P w = .ok (.value (.tuple #[.bool false])) w := by
    simp [execOp, ho, g4, Instr.next, getObj, Sem.run, g3, hn]
  rw [hrun]
  exact ⟨Grow.refl w, [.bool false], rfl, rfl, trivial⟩

theorem eff_nextG {i : Operand} {id pos : Nat} {s : ByteArray} (ho : o.op = .next i true) (hi : ev i = .ptr id 0) (hb : lookO mem id = some (.it s pos)) (hp : pos < s.size) :
    EffW E o mem ev (.g (.tup [G.bool true, G.int (pos : Int), G.lit (.int .i32 ((Utf8.decode s pos).1 : Int))])) ((id, .it s (pos + (Utf8.decode s pos).2)) :: mem) none := by
  intro w0 M0 ρ w e hm he
  have h1 := he i (by rw [ho]; simp [Op.operands])
  rw [hi] at h1
  obtain ⟨ow, g1, g2, g3, g4⟩ := iter_obj hm hb h1
  have hlt := (Array.getElem?_eq_some_iff.1 g3).1
  have hrun : (execOp e o).run E.P w = .ok (.value (.tuple #[.bool true, .int .i64 (pos : Int), .int .i32 ((Utf8.decode s pos).1 : Int)])) { w with heap := w.heap.setIfInBounds ow.b (.stringIter s (pos + (Utf8.decode s pos).2)) } := by
    simp [execOp, ho, g4, Instr.next, getObj, setObj, Sem.run, g3, hp, goInt]
  rw [hrun]
  obtain ⟨k1, k2⟩ := upon_turn (ob' := .stringIter s (pos + (Utf8.decode s pos).2)) (blk' := .it s (pos + (Utf8.decode s pos).2)) hm hb g1 g3 _ rfl ⟨ow, rhoSet_same _ _ _, g2, by simp [hlt]⟩
  exact ⟨_, k1, k2, _, rfl, rfl, rfl, rfl, trivial⟩

/-- a string's runes from a place on: place and rune -/
def runesF (s : ByteArray) : Nat → Nat → List (Int × Int)
  | 0, _ => []
  | n + 1, pos => if pos < s.size then ((pos : Int), ((Utf8.decode s pos).1 : Int)) :: runesF s n (pos + (Utf8.decode s pos).2) else []
def runes (s : ByteArray) : List (Int × Int) := runesF s s.size 0
def RunesAt (s : ByteArray) (pos : Nat) (l : List (Int × Int)) : Prop := ∃ n, s.size ≤ pos + n ∧ runesF s n pos = l
theorem decode_width (s : ByteArray) (i : Nat) : 1 ≤ (Utf8.decode s i).2 := by
  unfold Utf8.decode
  dsimp only
  repeat' split
  all_goals simp
theorem runesAt_start (s : ByteArray) : RunesAt s 0 (runes s) := ⟨s.size, by omega, rfl⟩
theorem runesAt_nil {s : ByteArray} {pos : Nat} (h : RunesAt s pos []) : s.size ≤ pos := by
  obtain ⟨n, h1, h2⟩ := h
  cases n with
  | zero => exact h1
  | succ n =>
    unfold runesF at h2
    split at h2
    · cases h2
    · omega
theorem runesAt_cons {s : ByteArray} {pos : Nat} {y : Int × Int} {t : List (Int × Int)} (h : RunesAt s pos (y :: t)) : pos < s.size ∧ y = ((pos : Int), ((Utf8.decode s pos).1 : Int)) ∧ RunesAt s (pos + (Utf8.decode s pos).2) t := by
  obtain ⟨n, h1, h2⟩ := h
  cases n with
  | zero => cases h2
  | succ n =>
    unfold runesF at h2
    split at h2
    · rename_i hp
      simp only [List.cons.injEq] at h2
      have := decode_width s pos
      exact ⟨hp, h2.1.symm, n, by omega, h2.2⟩
    · cases h2
end
end Go.Sim
namespace Go.Sim
section
variable {E : Env} {w0 : World} {M0 : Nat → Prop} {o : Oper} {ev : Operand → TV} {mem : Mem}
/-- one that reads memory of the call's own, under a guard -/
theorem st_gr {ops : Array Oper} {os : List Oper} {cs : List Cls} {s : ASt} {K : ASt → Prop} {r : TV} {d j e : Nat} {want gb : Bool} (hd : o.dst = some d) (hg : o.guard = some (j, want)) (hj : (ops[j]?).bind (·.dst) = some e) (hb : GB (s.get e) want gb) (he : gb = true → Eff E o s.mem (s.eval E) r)
    (hn : Nat.blt d s.n = true) (hk : AOps E ops os cs (s.put (some d) (bif gb then r else undefT)) K) : AOps E ops (o :: os) (.r :: cs) s K :=
  ⟨s.put (some d) (bif gb then r else undefT), ⟨fun d' h => by rw [hd] at h; cases h; exact Nat.le_of_ble_eq_true hn, gb, bif gb then r else undefT, s.mem, none, by unfold Wanted; rw [hg]; exact ⟨e, hj, hb⟩,
    fun h => ⟨rfl, rfl, by rw [h]; exact he h⟩, fun h => ⟨rfl, rfl, by rw [h]; rfl⟩, by rw [hd]; rfl⟩, hk⟩

def structB (P : Program) (t : TypeId) : Bool := match P.underlying t with | some (.struct _) => true | _ => false
theorem fits_lits_eq {w : World} {M : Nat → Prop} : ∀ {vs us : List Value}, Fits w M (vs.map G.lit) us → us = vs
  | [], [], _ => rfl
  | v :: vs, u :: us, h => by rw [show u = v from h.1.1, fits_lits_eq h.2]
  | [], _ :: _, h => h.elim
  | _ :: _, [], h => h.elim
theorem aeq_run {P : Program} {t : TypeId} {ks : List SK} {vs us : List Value} (hf : flatK P 60 t = some ks) (hs : structB P t = true) (hv : vs.map kindV = ks.map some) (hu : us.map kindV = ks.map some) (w : World) :
    (Op.equal t (.agg vs.toArray) (.agg us.toArray)).run P w = .ok (eqL vs us) w := by
  have := run_flat (P := P) 60 t ks vs us Op.maxDepth w hf (by decide) hv hu
  unfold structB at hs
  split at hs
  · rename_i fs hfs
    simp only [valOf, hfs] at this
    exact this
  · cases hs
theorem eff_aeq {op : BinOp} {t : TypeId} {x y : Operand} {t' : TypeId} {ks : List SK} (vs us : List Value) {b r : Bool} (ho : o.op = .binOp op t x y t') (hop : op = .eql ∧ r = b ∨ op = .neq ∧ r = !b) (hf : flatK E.P 60 t = some ks ∧ structB E.P t = true ∧ E.P.eqGuardType E.P.depth t = false) (hx : ev x = .g (.agg (vs.map G.lit))) (hy : ev y = .g (.agg (us.map G.lit)))
    (hv : vs.map kindV = ks.map some) (hu : us.map kindV = ks.map some) (hb : eqL vs us = b) (mem : Mem) : Eff E o mem ev (.g (.bool r)) :=
  eff_same (fun w M ρ e he => by
    obtain ⟨a1, a2, a3⟩ := hf
    have h1 := he x (by rw [ho]; simp [Op.operands])
    rw [hx] at h1
    obtain ⟨vs', h1, h1'⟩ := h1
    have := fits_lits_eq h1'; subst this
    have h2 := he y (by rw [ho]; simp [Op.operands])
    rw [hy] at h2
    obtain ⟨us', h2, h2'⟩ := h2
    have := fits_lits_eq h2'; subst this
    have hr := aeq_run (P := E.P) a1 a2 hv hu w
    rw [hb] at hr
    refine ⟨.bool r, ?_, rfl⟩
    rcases hop with ⟨rfl, rfl⟩ | ⟨rfl, rfl⟩ <;>
      simp [execOp, ho, h1, h2, eqGuard, a3, binOp, hr]) mem
theorem eff_aeql {t : TypeId} {x y : Operand} {t' : TypeId} {ks : List SK} (vs us : List Value) {b : Bool} (ho : o.op = .binOp .eql t x y t') (hf : flatK E.P 60 t = some ks ∧ structB E.P t = true ∧ E.P.eqGuardType E.P.depth t = false) (hx : ev x = .g (.agg (vs.map G.lit))) (hy : ev y = .g (.agg (us.map G.lit)))
    (hv : vs.map kindV = ks.map some) (hu : us.map kindV = ks.map some) (hb : eqL vs us = b) (mem : Mem) : Eff E o mem ev (.g (.bool b)) := eff_aeq vs us ho (.inl ⟨rfl, rfl⟩) hf hx hy hv hu hb mem
theorem eff_aneq {t : TypeId} {x y : Operand} {t' : TypeId} {ks : List SK} (vs us : List Value) {b : Bool} (ho : o.op = .binOp .neq t x y t') (hf : flatK E.P 60 t = some ks ∧ structB E.P t = true ∧ E.P.eqGuardType E.P.depth t = false) (hx : ev x = .g (.agg (vs.map G.lit))) (hy : ev y = .g (.agg (us.map G.lit)))
    (hv : vs.map kindV = ks.map some) (hu : us.map kindV = ks.map some) (hb : eqL vs us = b) (mem : Mem) : Eff E o mem ev (.g (.bool !b)) := eff_aeq vs us ho (.inr ⟨rfl, rfl⟩) hf hx hy hv hu hb mem
theorem drop_consB {s : ByteArray} {rest : List UInt8} {k : Nat} (h : s.data.toList.drop k = rest) (hk : ((k : Nat) : Int) < (ByteArray.size s : Int)) : ∃ x rest', rest = x :: rest' ∧ s.data.toList[k]? = some x ∧ s.data.toList.drop (k + 1) = rest' :=
  drop_cons h (by rw [Array.length_toList]; exact hk)
theorem drop_nilB {s : ByteArray} {rest : List UInt8} {k : Nat} (h : s.data.toList.drop k = rest) (hk : ¬ ((k : Nat) : Int) < (ByteArray.size s : Int)) : rest = [] :=
  drop_nil h (by rw [Array.length_toList]; exact hk)
end
end Go.Sim
namespace Go.Sim
theorem eff_nextY {E : Env} {o : Oper} {ev : Operand → TV} {mem : Mem} {i : Operand} {id pos : Nat} {s : ByteArray} {y : Int × Int} (ho : o.op = .next i true) (hi : ev i = .ptr id 0) (hb : lookO mem id = some (.it s pos)) (hp : pos < s.size) (hy : y = ((pos : Int), ((Utf8.decode s pos).1 : Int))) :
    EffW E o mem ev (.g (.tup [G.bool true, G.int y.1, G.lit (.int .i32 y.2)])) ((id, .it s (pos + (Utf8.decode s pos).2)) :: mem) none := by
  subst hy; exact eff_nextG ho hi hb hp
end Go.Sim

namespace Go.Sim
open Go.Proofs
def sv (l : List UInt8) : Value := .string ⟨l.toArray⟩
def statusCells : List Value := [sv [114, 101, 116, 117, 114, 110, 101, 100], sv [102, 108, 111, 119, 110], sv [101, 120, 99, 117, 115, 101, 100], sv [109, 105, 115, 115, 101, 100]]
def lengthCells : List Value := [31, 28, 31, 30, 31, 30, 31, 31, 30, 31, 30, 31].map (.int .i64 ·)
end Go.Sim

namespace Go.Sim
open Go.Proofs
abbrev glT : List (Nat × List Value) := [(0, statusCells), (1, lengthCells)]
theorem tryzOrders : Tryz.prog.follows .mixedOrders = true := by kernel_rfl
noncomputable abbrev EG (g : List (Nat × List Value)) : Env := ⟨Tryz.prog, g, tryzOrders, []⟩
end Go.Sim

namespace Go.Sim
def eqAnd : List Bool → Bool
  | [] => true
  | b :: l => b && eqAnd l
def ixO {α : Type} (l : List α) (i : Int) : Option α := bif decide (0 ≤ i) then l[i.toNat]? else none
theorem ixO_nn {α : Type} {l : List α} {i : Int} {x : α} (h : ixO l i = some x) : 0 ≤ i := by
  unfold ixO at h
  cases hd : decide (0 ≤ i) with
  | true => exact of_decide_eq_true hd
  | false => rw [hd] at h; cases h
theorem ixO_get {α : Type} {l : List α} {i : Int} {x : α} (h : ixO l i = some x) : l[i.toNat]? = some x := by
  have := ixO_nn h
  unfold ixO at h
  rw [decide_eq_true this] at h; exact h
theorem le_get {α : Type} {l : List α} {k : Nat} {x : α} (h : l[k]? = some x) : ((k : Nat) : Int).toNat ≤ l.length := by
  have := (List.getElem?_eq_some_iff.1 h).1
  simp; omega
theorem rv_viewL {E : Env} {s : ASt} {t id k : Nat} {e : TypeId} {α : Type} {f : α → List G} {l : List α} (h : s.get t = .osl id k 0 l.length) (hb : lookO s.mem id = some (.arr e k (l.map f))) (hbw : lookO E.bow id = none := by rfl) : RVal E s (.tmp t) (.sl k (l.map f)) := by
  refine rv_view ?_ (by rw [h]; simp [viewB, hbw])
  rw [h]
  simp [viewG, hb]
  rw [show l.length = (l.map f).length by simp, List.take_length]
theorem rv_nilG {E : Env} {s : ASt} {t : Nat} {x : G} (h : s.get t = .g (.lit (.slice none 0 0))) (hx : ∀ w M, x.p w M (.slice none 0 0)) : RVal E s (.tmp t) x := by
  intro w0 M0 ρ w tmps hm ht
  refine ⟨tmps.getD t undef, rfl, ?_⟩
  have := ht t
  rw [h] at this
  rw [show tmps.getD t undef = _ from this]
  exact hx _ _
theorem nil_sl (k : Nat) : ∀ w M, (G.sl k []).p w M (.slice none 0 0) := fun _ _ => ⟨none, 0, rfl, Nat.le_refl _, Nat.zero_le _, by simp, .inl ⟨rfl, fun _ => rfl⟩⟩
end Go.Sim
namespace Go.Sim
section
variable {E : Env} {o : Oper} {ev : Operand → TV}
def shrI (a b : Int) : Int := a.fdiv (2 ^ (min b.toNat 64))
def andI (a b : Int) : Int := IntKind.i64.wrap ((BitVec.ofInt 64 a &&& BitVec.ofInt 64 b).toNat : Int)
end
end Go.Sim
namespace Go.Sim
theorem eff_quow {E : Env} {o : Oper} {ev : Operand → TV} {t t' : TypeId} {x y : Operand} {a b : Int} (ho : o.op = .binOp .quo t x y t') (hx : ev x = .g (.int a)) (hy : ev y = .g (.int b)) (hb : b ≠ 0) (mem : Mem) : Eff E o mem ev (.g (.int (IntKind.i64.wrap (a.tdiv b)))) :=
  eff_int ho hx hy (by rw [binOp_quo, Op.intDiv, if_neg hb]) mem
end Go.Sim


namespace Go.Sim
section
variable {E : Env} {w0 : World} {M0 : Nat → Prop}

/-! ### blocks that are lent to a callee -/
def tvGround : TV → Bool
  | .g _ => true
  | _ => false
/-- a block that names no other -/
def Blk.ground : Blk → Bool
  | .box cs => cs.all tvGround
  | _ => true

theorem trel_ground {w : World} {M : Nat → Prop} {ρ ρ' : Rho} {tv : TV} {v : Value} (h : tvGround tv = true) (k : TRel w M ρ tv v) : TRel w M ρ' tv v := by
  cases tv <;> first | exact k | cases h
theorem tfits_ground {w : World} {M : Nat → Prop} {ρ ρ' : Rho} : ∀ {cs : List TV} {vs : List Value}, cs.all tvGround = true → TFits w M ρ cs vs → TFits w M ρ' cs vs
  | [], [], _, h => h
  | c :: cs, v :: vs, hg, h => by
    simp only [List.all_cons, Bool.and_eq_true] at hg
    exact ⟨⟨trel_ground hg.1 h.1.1, h.1.2⟩, tfits_ground hg.2 h.2⟩
  | [], _ :: _, _, h => h.elim
  | _ :: _, [], _, h => h.elim
theorem BRel.ground {w : World} {M : Nat → Prop} {ρ ρ' : Rho} {id id' : Nat} {blk : Blk} (hg : blk.ground = true) (he : ρ' id' = ρ id) (h : BRel w M ρ id blk) : BRel w M ρ' id' blk := by
  cases blk with
  | box cs => obtain ⟨ow, e, vs, h1, h2, h3, h4⟩ := h; exact ⟨ow, e, vs, he.trans h1, h2, h3, tfits_ground hg h4⟩
  | arr e k xs =>
    rcases h with ⟨h1, h2⟩ | ⟨ow, vs, h1, h2⟩
    · exact .inl ⟨he.trans h1, h2⟩
    · exact .inr ⟨ow, vs, he.trans h1, h2⟩
  | mp es => obtain ⟨ow, en, cl, h1, h2⟩ := h; exact ⟨ow, en, cl, he.trans h1, h2⟩
  | it s pos => obtain ⟨ow, h1, h2⟩ := h; exact ⟨ow, he.trans h1, h2⟩
  | mit es seen => obtain ⟨ow, h1, h2⟩ := h; exact ⟨ow, he.trans h1, h2⟩
  | gone => trivial
theorem BRel.has {w : World} {M : Nat → Prop} {ρ : Rho} {id : Nat} {blk : Blk} (hg : blk.live = true) (h : BRel w M ρ id blk) : ∃ x, ρ id = some x := by
  cases blk with
  | box cs => obtain ⟨ow, e, vs, h1, _⟩ := h; exact ⟨_, h1⟩
  | arr e k xs =>
    rcases h with ⟨h1, _⟩ | ⟨ow, vs, h1, _⟩
    · exact ⟨_, h1⟩
    · exact ⟨_, h1⟩
  | mp es => obtain ⟨ow, en, cl, h1, _⟩ := h; exact ⟨_, h1⟩
  | it s pos => obtain ⟨ow, h1, _⟩ := h; exact ⟨_, h1⟩
  | mit es seen => obtain ⟨ow, h1, _⟩ := h; exact ⟨_, h1⟩
  | gone => cases hg
theorem BRel.sub {w : World} {M M' : Nat → Prop} {ρ : Rho} {id : Nat} {blk : Blk} (h : BRel w M ρ id blk) (hM : ∀ b, M' b → M b) : BRel w M' ρ id blk :=
  h.mono none (by simp) (noref_none _) (fun _ _ => rfl) (fun _ _ _ => rfl) (fun b _ => hM b) (fun _ _ _ => rfl)
theorem BelowX.mono {L L' : Nat → Prop} {a b : World} (h : BelowX L a b) (hl : ∀ k, L k → L' k) : BelowX L' a b := ⟨h.os, h.tape, h.output, h.size, fun k hk hn => h.block k hk fun h => hn (hl k h)⟩

/-- frame values against values, of any number of cells -/
def ArgsT (w : World) (M : Nat → Prop) (ρ : Rho) : List TV → List Value → Prop
  | [], [] => True
  | c :: cs, v :: vs => TRel w M ρ c v ∧ ArgsT w M ρ cs vs
  | _, _ => False
theorem ArgsT.length {w : World} {M : Nat → Prop} {ρ : Rho} : ∀ {cs : List TV} {vs : List Value}, ArgsT w M ρ cs vs → vs.length = cs.length
  | [], [], _ => rfl
  | _ :: _, _ :: _, h => by simp [ArgsT.length h.2]
  | [], _ :: _, h => h.elim
  | _ :: _, [], h => h.elim

/-- THE CONTRACT OF A FUNCTION THAT TURNS BLOCKS OF ITS CALLER's: mem before, mem' behind -/
def ConB (E : Env) (f : FuncId) (args : List TV) (mem : Mem) (r : G) (mem' : Mem) : Prop :=
  ∀ w M ρ (vs : List Value), (∀ b, M b → b < w.heap.size) → GlOk E w (owned M ρ) → (∀ id x, ρ id = some x → ∃ blk, lookO mem id = some blk) →
    (∀ id ow, ρ id = some (some ow) → ow.b < w.heap.size ∧ ¬ M ow.b) → (∀ id id' ow ow', ρ id = some (some ow) → ρ id' = some (some ow') → ow.b = ow'.b → id = id') →
    (∀ id blk, lookO mem id = some blk → BRel w (owned M ρ) ρ id blk) → ArgsT w (owned M ρ) ρ args vs →
    Calls E.P f vs.toArray w fun e w' => ∃ v, e = .returned v ∧ BelowX (fun b => ∃ id ow, ρ id = some (some ow) ∧ ow.b = b) w w' ∧ (∀ id blk, (id, blk) ∈ mem' → BRel w' (owned M ρ) ρ id blk) ∧ r.p w' (owned M ρ) v

def Env.lend (E : Env) (mem : Mem) (x : Nat → Option Own) : Env := ⟨E.P, E.gl, E.orders, mem.map fun p => (p.1, x p.1)⟩
theorem Con.lend {f : FuncId} {args : List G} {r : G} {mem : Mem} {x : Nat → Option Own} (h : Con E f args r) : Con (E.lend mem x) f args r := h
theorem ConB.lend {f : FuncId} {args : List TV} {r : G} {m m' : Mem} {mem : Mem} {x : Nat → Option Own} (h : ConB E f args m r m') : ConB (E.lend mem x) f args m r m' := h

theorem lookO_mapk {α β : Type} (x : Nat → β) : ∀ {l : List (Nat × α)} {id : Nat} {y : β}, lookO (l.map fun p => (p.1, x p.1)) id = some y ↔ (∃ b, lookO l id = some b) ∧ y = x id
  | [], id, y => by simp [lookO]
  | (k, b) :: r, id, y => by
    simp only [List.map_cons, lookO]
    rcases Bool.eq_false_or_eq_true (Nat.beq k id) with hk | hk
    · rw [hk]
      have := Nat.eq_of_beq_eq_true hk
      subst this
      simp [eq_comm]
    · rw [hk]; exact lookO_mapk x

def initTV : List TV → Nat → TV
  | [], _ => .g (.lit undef)
  | x :: _, 0 => x
  | _ :: xs, i + 1 => initTV xs i
theorem initTV_rel {w : World} {M : Nat → Prop} {ρ : Rho} : ∀ {xs : List TV} {vs : List Value} (m : Nat), ArgsT w M ρ xs vs → ∀ i, TRel w M ρ (initTV xs i) ((vs ++ List.replicate m undef)[i]?.getD undef)
  | [], [], m, _, i => by
    show _ = _
    simp only [List.nil_append, List.getElem?_replicate]
    split <;> rfl
  | x :: xs, v :: vs, m, h, 0 => by exact h.1
  | x :: xs, v :: vs, m, h, i + 1 => by
    have := initTV_rel m h.2 i
    simpa [initTV] using this
  | [], _ :: _, _, h, _ => h.elim
  | _ :: _, [], _, h, _ => h.elim

theorem memL_mem {s : ASt} : ∀ {m : Mem}, MemL s m → ∀ {i : Nat} {b : Blk}, (i, b) ∈ m → lookO s.mem i = some b
  | [], _, _, _, h => by cases h
  | (k, v) :: r, h, i, b, hb => by
    rcases List.mem_cons.1 hb with e | hb
    · cases e; exact h.1
    · exact memL_mem h.2 hb

/-- how the body of such a function ends -/
def DoneB (E : Env) (fn : Func) (r : G) (mem' : Mem) : Exit → ASt → Prop
  | .ret, s | .normal, s => ResOk E fn s r ∧ MemL s mem'
  | _, _ => False

def lendable (mem mem' : Mem) : Bool := mem.all (fun p => p.2.live) && mem'.all (fun p => (lookO mem p.1).isSome && p.2.ground)

theorem conB_of_aw {f : FuncId} {fn : Func} {c : Code} {args : List TV} {mem mem' : Mem} {r : G} (hf : E.P.funcs[f]? = some fn) (hb : fn.body = some c) (hn0 : Nat.ble args.length fn.ntmps = true) (hl : lendable mem mem' = true)
    (h : ∀ w0 M0 x, AWp (E.lend mem x) w0 M0 c (DoneB (E.lend mem x) fn r mem') ⟨fn.ntmps, initTV args, mem⟩) : ConB E f args mem r mem' := by
  intro w M ρ vs hM hgl hdom hown hinj hblk hv
  simp only [lendable, Bool.and_eq_true, List.all_eq_true] at hl
  have hn := Nat.le_of_ble_eq_true hn0
  have hlen := hv.length
  let x : Nat → Option Own := fun id => (ρ id).getD none
  have hx : ∀ id y, ρ id = some y → x id = y := fun id y h => by simp only [x, h, Option.getD_some]
  have hkeep : ∀ id y, lookO (E.lend mem x).bow id = some y → ρ id = some y := by
    intro id y h
    obtain ⟨⟨b, h1⟩, rfl⟩ := (lookO_mapk x).1 h
    obtain ⟨z, hz⟩ := (hblk id b h1).has (hl.1 _ (lookO_mem _ h1))
    rw [hx id z hz]; exact hz
  have hback : ∀ id y, ρ id = some y → lookO (E.lend mem x).bow id = some y := fun id y h => (lookO_mapk x).2 ⟨hdom id y h, (hx id y h).symm⟩
  refine calls_of_wp hf hb ?_
  have ha : ARel (E.lend mem x) w M ⟨fn.ntmps, initTV args, mem⟩ { tmps := vs.toArray ++ Array.replicate (fn.ntmps - vs.toArray.size) undef, defers := [] } w := by
    refine ⟨rfl, ?_, ρ, ?_, ?_⟩
    · simp; omega
    · exact ⟨BelowX.refl _ w, hM, hgl, hdom, fun id ow ho => ⟨.inr ⟨id, ow, hback id _ ho, rfl⟩, (hown id ow ho).1⟩, hinj, hkeep, fun b ⟨id, ow, h1, h2⟩ => h2 ▸ (hown id ow (hkeep id _ h1)).2, hblk⟩
    · intro i
      have := initTV_rel (fn.ntmps - vs.length) hv i
      show TRel _ _ _ (initTV args i) _
      rw [Array.getD_eq_getD_getElem?]
      rw [show (vs.toArray ++ Array.replicate (fn.ntmps - vs.toArray.size) undef) = (vs ++ List.replicate (fn.ntmps - vs.length) undef).toArray by simp]
      rw [List.getElem?_toArray]
      exact this
  refine wp_mono (h w M x _ w ha) ?_
  rintro e a' w' ⟨s', ha', hq⟩
  have fin : ResOk (E.lend mem x) fn s' r ∧ MemL s' mem' → a'.defers = [] ∧ ∃ v, (results fn a'.tmps).run E.P w' = .ok v w' ∧ (∃ u, Ending.returned v = .returned u ∧ BelowX (fun b => ∃ id ow, ρ id = some (some ow) ∧ ow.b = b) w w' ∧ (∀ id blk, (id, blk) ∈ mem' → BRel w' (owned M ρ) ρ id blk) ∧ r.p w' (owned M ρ) u) := by
    rintro ⟨hq, hm'⟩
    obtain ⟨ρf, hm, ht⟩ := ha'.ex
    obtain ⟨v, h1, h2⟩ := hq.run ρf w' a'.tmps hm ht
    have hsub : ∀ b, owned M ρ b → owned M ρf b := by
      rintro b (h | ⟨id, o, h, rfl⟩)
      · exact .inl h
      · exact .inr ⟨id, o, hm.keep id _ (hback id _ h), rfl⟩
    refine ⟨ha'.defers, v, h1, v, rfl, hm.below.mono (fun b ⟨id, ow, h3, h4⟩ => ⟨id, ow, hkeep id _ h3, h4⟩), fun id blk hi => ?_, r.mono h2 (fun _ _ _ => rfl) (fun b _ hb => ?_)⟩
    · have h3 := hl.2 _ hi
      simp only [Bool.and_eq_true] at h3
      refine BRel.ground h3.2 ?_ ((hm.blk id blk (memL_mem hm' hi)).sub hsub)
      cases h4 : lookO mem id with
      | none => rw [h4] at h3; cases h3.1
      | some b =>
        obtain ⟨z, hz⟩ := (hblk id b h4).has (hl.1 _ (lookO_mem _ h4))
        rw [hz, hm.keep id z (hback id z hz)]
    · rcases hb with hb | ⟨id, o, hb, rfl⟩
      · exact .inl hb
      · exact .inr ⟨id, o, hback id _ hb, rfl⟩
  cases e with
  | ret => exact fin hq
  | normal => exact fin hq
  | _ => exact hq.elim

/-! ### the caller -/
def renT (σ : List (Nat × Nat)) : TV → Option TV
  | .g x => some (.g x)
  | .ptr p o => (lookO σ p).map fun c => .ptr c o
  | .osl p k lo hi => (lookO σ p).map fun c => .osl c k lo hi
  | .omap p => (lookO σ p).map fun c => .omap c
  | _ => none
def LendL (σ : List (Nat × Nat)) (mem : Mem) : Mem → Prop
  | [] => True
  | (p, blk) :: r => (∃ c, lookO σ p = some c ∧ lookO mem c = some blk ∧ blk.ground = true) ∧ LendL σ mem r
def nodupB : List Nat → Bool
  | [] => true
  | x :: l => l.all (fun y => !Nat.beq x y) && nodupB l
def lendOk (σ : List (Nat × Nat)) (memc memc' : Mem) : Bool :=
  nodupB (σ.map (·.2)) && (σ.all (fun p => (lookO memc p.1).isSome && memc'.any (fun q => Nat.beq q.1 p.1)) && memc'.all (fun p => (lookO σ p.1).isSome && p.2.ground))
def renM (σ : List (Nat × Nat)) (m : Mem) : Mem := m.map fun p => ((lookO σ p.1).getD 0, p.2)

theorem lend_look {σ : List (Nat × Nat)} {mem : Mem} : ∀ {mc : Mem}, LendL σ mem mc → ∀ {p : Nat} {blk : Blk}, lookO mc p = some blk → ∃ c, lookO σ p = some c ∧ lookO mem c = some blk ∧ blk.ground = true
  | (k, b) :: r, h, p, blk, hb => by
    simp only [lookO] at hb
    rcases Bool.eq_false_or_eq_true (Nat.beq k p) with hk | hk
    · rw [hk] at hb
      have := Nat.eq_of_beq_eq_true hk
      subst this
      simp at hb; subst hb
      exact h.1
    · rw [hk] at hb; exact lend_look h.2 hb
  | [], _, _, _, hb => by cases hb

theorem sigma_inj : ∀ {σ : List (Nat × Nat)}, nodupB (σ.map (·.2)) = true → ∀ {p q c : Nat}, (p, c) ∈ σ → (q, c) ∈ σ → p = q
  | [], _, _, _, _, h, _ => by cases h
  | (a, b) :: r, hn, p, q, c, h1, h2 => by
    simp only [List.map_cons, nodupB, Bool.and_eq_true, List.all_eq_true, List.mem_map, forall_exists_index, and_imp] at hn
    have key : ∀ x, (x, b) ∈ r → False := fun x hx => by have := hn.1 b (x, b) hx rfl; simp at this
    rcases List.mem_cons.1 h1 with e1 | h1 <;> rcases List.mem_cons.1 h2 with e2 | h2
    · cases e1; cases e2; rfl
    · cases e1; exact (key _ h2).elim
    · cases e2; exact (key _ h1).elim
    · exact sigma_inj hn.2 h1 h2

theorem args_ren {w : World} {M : Nat → Prop} {ρ ρc : Rho} {σ : List (Nat × Nat)} {ev : Operand → TV} {e : Operand → Value} (hρ : ∀ p c, lookO σ p = some c → ρc p = ρ c) : ∀ {aps : List Operand} {args : List TV}, (∀ x ∈ aps, TRel w M ρ (ev x) (e x)) →
    aps.map (fun x => some (ev x)) = args.map (renT σ) → ArgsT w M ρc args (aps.map e)
  | [], [], _, _ => trivial
  | x :: aps, y :: args, h, he => by
    simp only [List.map_cons, List.cons.injEq] at he
    refine ⟨?_, args_ren hρ (fun z hz => h z (List.mem_cons_of_mem _ hz)) he.2⟩
    have h1 := h x List.mem_cons_self
    have h2 := he.1
    cases y with
    | g q => simp only [renT, Option.some.injEq] at h2; rw [h2] at h1; exact h1
    | ptr p o =>
      cases hp : lookO σ p with
      | none => simp [renT, hp] at h2
      | some c =>
        simp [renT, hp] at h2; rw [h2] at h1
        obtain ⟨ow, h3, h4⟩ := h1
        exact ⟨ow, (hρ p c hp).trans h3, h4⟩
    | osl p k lo hi =>
      cases hp : lookO σ p with
      | none => simp [renT, hp] at h2
      | some c =>
        simp [renT, hp] at h2; rw [h2] at h1
        rcases h1 with ⟨h3, h4⟩ | ⟨ow, h3, h4⟩
        · exact .inl ⟨(hρ p c hp).trans h3, h4⟩
        · exact .inr ⟨ow, (hρ p c hp).trans h3, h4⟩
    | omap p =>
      cases hp : lookO σ p with
      | none => simp [renT, hp] at h2
      | some c =>
        simp [renT, hp] at h2; rw [h2] at h1
        obtain ⟨ow, h3, h4⟩ := h1
        exact ⟨ow, (hρ p c hp).trans h3, h4⟩
    | eptr => simp [renT] at h2
    | any => simp [renT] at h2
  | [], _ :: _, _, he => by simp at he
  | _ :: _, [], _, he => by simp at he

theorem lookO_renM {σ : List (Nat × Nat)} {mem : Mem} {id : Nat} {blk : Blk} : ∀ {m : Mem}, lookO (renM σ m ++ mem) id = some blk → (∃ p, (p, blk) ∈ m ∧ (lookO σ p).getD 0 = id) ∨ ((∀ q ∈ m, (lookO σ q.1).getD 0 ≠ id) ∧ lookO mem id = some blk)
  | [], h => .inr ⟨by simp, h⟩
  | (k, b) :: r, h => by
    simp only [renM, List.map_cons, List.cons_append, lookO] at h
    rcases Bool.eq_false_or_eq_true (Nat.beq ((lookO σ k).getD 0) id) with hk | hk
    · rw [hk] at h
      simp at h; subst h
      exact .inl ⟨k, List.mem_cons_self, Nat.eq_of_beq_eq_true hk⟩
    · rw [hk] at h
      rcases lookO_renM (m := r) h with ⟨p, h1, h2⟩ | ⟨h1, h2⟩
      · exact .inl ⟨p, List.mem_cons_of_mem _ h1, h2⟩
      · refine .inr ⟨fun q hq => ?_, h2⟩
        rcases List.mem_cons.1 hq with rfl | hq
        · intro e; rw [show Nat.beq ((lookO σ k).getD 0) id = true by rw [← e]; exact Nat.beq_refl _] at hk; cases hk
        · exact h1 q hq

theorem lookO_app {α : Type} {l m : List (Nat × α)} {id : Nat} {b : α} (h : lookO m id = some b) : ∃ b', lookO (l ++ m) id = some b' := by
  induction l with
  | nil => exact ⟨b, h⟩
  | cons p l ih =>
    obtain ⟨k, v⟩ := p
    simp only [List.cons_append, lookO]
    cases Nat.beq k id with
    | true => exact ⟨v, rfl⟩
    | false => exact ih

/-- what a call leaves that turned lent blocks -/
theorem upon_callB {f : FuncId} {args : List TV} {memc memc' : Mem} {r : G} {vs : List Value} {ρ : Rho} {mem : Mem} {w : World} {res : Result Next} (σ : List (Nat × Nat)) (hc : ConB E f args memc r memc') (hm : MRel E w0 M0 ρ mem w)
    (hl : LendL σ mem memc) (hσ : lendOk σ memc memc' = true) (hv : ∀ ρc : Rho, (∀ p c, lookO σ p = some c → ρc p = ρ c) → ArgsT w (owned M0 ρ) ρc args vs)
    (hres : res = .ok (.enter f vs.toArray) w) : UponW E w0 M0 ρ w (renM σ memc' ++ mem) (.g r) none res := by
  subst hres
  simp only [lendOk, Bool.and_eq_true, List.all_eq_true, List.any_eq_true] at hσ
  obtain ⟨s1, s2, s3⟩ := hσ
  let ρc : Rho := fun p => (lookO σ p).bind ρ
  have hρc : ∀ p c, lookO σ p = some c → ρc p = ρ c := fun p c h => by simp only [ρc, h, Option.bind_some]
  have hρc' : ∀ p x, ρc p = some x → ∃ c, lookO σ p = some c ∧ ρ c = some x := by
    intro p x h
    simp only [ρc] at h
    cases hp : lookO σ p with
    | none => rw [hp] at h; cases h
    | some c => rw [hp] at h; exact ⟨c, rfl, h⟩
  let M : Nat → Prop := fun b => owned M0 ρ b ∧ ¬ ∃ p ow, ρc p = some (some ow) ∧ ow.b = b
  have hown : owned M ρc = owned M0 ρ := by
    funext b
    apply propext
    constructor
    · rintro (h | ⟨p, o, h, rfl⟩)
      · exact h.1
      · obtain ⟨c, _, h2⟩ := hρc' p _ h
        exact .inr ⟨c, o, h2, rfl⟩
    · intro h
      by_cases hb : ∃ p ow, ρc p = some (some ow) ∧ ow.b = b
      · obtain ⟨p, ow, h1, h2⟩ := hb; exact .inr ⟨p, ow, h1, h2⟩
      · exact .inl ⟨h, hb⟩
  have hinj : ∀ id id' ow ow', ρc id = some (some ow) → ρc id' = some (some ow') → ow.b = ow'.b → id = id' := by
    intro p q ow ow' h1 h2 h3
    obtain ⟨c, c1, c2⟩ := hρc' p _ h1
    obtain ⟨d, d1, d2⟩ := hρc' q _ h2
    have := hm.inj c d ow ow' c2 d2 h3
    subst this
    exact sigma_inj s1 (lookO_mem _ c1) (lookO_mem _ d1)
  have hcall := hc w M ρc vs (fun b h => hm.lt b h.1) (by rw [hown]; exact hm.glob)
    (fun p x h => by
      obtain ⟨c, c1, _⟩ := hρc' p x h
      have := (s2 (p, c) (lookO_mem _ c1)).1
      exact Option.isSome_iff_exists.1 this)
    (fun p ow h => by
      obtain ⟨c, _, c2⟩ := hρc' p _ h
      exact ⟨(hm.fresh c ow c2).2, fun hM => hM.2 ⟨p, ow, h, rfl⟩⟩)
    hinj
    (fun p blk h => by
      obtain ⟨c, c1, c2, c3⟩ := lend_look hl h
      rw [hown]
      exact BRel.ground c3 (hρc p c c1) (hm.blk c blk c2))
    (by rw [hown]; exact hv ρc hρc)
  rw [hown] at hcall
  refine hcall.mono ?_
  rintro e w' ⟨v, rfl, hb, hblk, hr⟩
  have hlow : ∀ b, b < w.heap.size → ¬ owned M0 ρ b → w'.heap[b]? = w.heap[b]? := fun b hlt hno => hb.block b hlt (by
    rintro ⟨p, ow, h1, rfl⟩
    obtain ⟨c, _, c2⟩ := hρc' p _ h1
    exact hno (.inr ⟨c, ow, c2, rfl⟩))
  refine ⟨v, rfl, ρ, ⟨?_, hm.m0, hm.glob.grow hb.size hlow, ?_, ?_, hm.inj, hm.keep, hm.lentM, ?_⟩, fun tv u hn h => h.mono none hn hlow (fun _ _ h => h) (fun _ _ _ => rfl), hr⟩
  · refine ⟨hb.os.trans hm.below.os, hb.tape.trans hm.below.tape, hb.output.trans hm.below.output, Nat.le_trans hm.below.size hb.size, fun k hk hlk => ?_⟩
    refine (hb.block k (Nat.lt_of_lt_of_le hk hm.below.size) ?_).trans (hm.below.block k hk hlk)
    rintro ⟨p, ow, h1, rfl⟩
    obtain ⟨c, _, c2⟩ := hρc' p _ h1
    rcases (hm.fresh c ow c2).1 with h | h
    · omega
    · exact hlk h
  · intro id x h
    obtain ⟨b, hb⟩ := hm.dom id x h
    exact lookO_app hb
  · exact fun id ow ho => ⟨(hm.fresh id ow ho).1, Nat.lt_of_lt_of_le (hm.fresh id ow ho).2 hb.size⟩
  · intro id blk h
    rcases lookO_renM h with ⟨p, h1, h2⟩ | ⟨h1, h2⟩
    · have h3 := s3 _ h1
      simp only [Bool.and_eq_true] at h3
      obtain ⟨c, hc⟩ := Option.isSome_iff_exists.1 h3.1
      rw [hc, Option.getD_some] at h2
      subst h2
      exact BRel.ground h3.2 (hρc p c hc).symm (hblk p blk h1)
    · refine (hm.blk id blk h2).mono none (by simp) (noref_none _) (fun ow ho => ?_) hlow (fun _ _ h => h) (fun _ _ _ => rfl)
      refine hb.block ow.b (hm.fresh id ow ho).2 ?_
      rintro ⟨p, ow2, g1, g2⟩
      obtain ⟨c, c1, c2⟩ := hρc' p _ g1
      have := hm.inj c id ow2 ow c2 ho g2
      subst this
      obtain ⟨q, hq, hq2⟩ := (s2 (p, c) (lookO_mem _ c1)).2
      have hq2 := Nat.eq_of_beq_eq_true hq2
      refine h1 q hq ?_
      rw [hq2]
      show (lookO σ p).getD 0 = c
      rw [c1]; rfl

/-- a call of a named function that turns blocks of the caller's own -/
theorem eff_callB {o : Oper} {mem : Mem} {ev : Operand → TV} {f : FuncId} {aps : Array Operand} {ts : Array TypeId} {args : List TV} {memc memc' : Mem} {r : G} (σ : List (Nat × Nat)) (ho : o.op = .call ⟨.value (.func f), aps, ts⟩)
    (hk : Known E.P f) (hev : ev (.func f) = .g (.lit (.func (.func f) #[] #[]))) (hc : ConB E f args memc r memc') (ha : aps.toList.map (fun x => some (ev x)) = args.map (renT σ)) (hl : LendL σ mem memc) (hσ : lendOk σ memc memc' = true) :
    EffW E o mem ev (.g r) (renM σ memc' ++ mem) none := by
  intro w0 M0 ρ w e hm hx
  obtain ⟨fn, h1, h2, h3⟩ := hk
  have hef : e (.func f) = .func (.func f) #[] #[] := by
    have := hx (.func f) (by rw [ho]; simp [Op.operands, Call.operands])
    rw [hev] at this
    exact this
  refine upon_callB σ hc hm hl hσ (fun ρc hρ => args_ren hρ (fun x hx' => hx x (by rw [ho]; simp [Op.operands, Call.operands]; exact .inr (by simpa using hx'))) ha) ?_
  simp [execOp, ho, resolve, hef, Deferred.ofValue, invoke, run_callFunc h1 h2 h3, ← Array.toList_map]

theorem eff_callB1 {o : Oper} {mem : Mem} {ev : Operand → TV} {f : FuncId} {aps : Array Operand} {ts : Array TypeId} {args : List TV} {b b' : Blk} {r : G} (p c : Nat) (ho : o.op = .call ⟨.value (.func f), aps, ts⟩)
    (hk : Known E.P f) (hev : ev (.func f) = .g (.lit (.func (.func f) #[] #[]))) (hc : ConB E f args [(p, b)] r [(p, b')]) (ha : aps.toList.map (fun x => some (ev x)) = args.map (renT [(p, c)])) (hl : lookO mem c = some b) (hσ : lendOk [(p, c)] [(p, b)] [(p, b')] = true) (hg : b.ground = true) :
    EffW E o mem ev (.g r) ((c, b') :: mem) none := by
  have hp : lookO [(p, c)] p = some c := by simp [lookO]
  have := eff_callB (E := E) (mem := mem) [(p, c)] ho hk hev hc ha ⟨⟨c, hp, hl, hg⟩, trivial⟩ hσ
  have he : renM [(p, c)] [(p, b')] ++ mem = (c, b') :: mem := by simp [renM, hp]
  rwa [he] at this

theorem at_nil {ev : Operand → TV} {σ : List (Nat × Nat)} : List.map (fun x => some (ev x)) [] = List.map (renT σ) [] := rfl
theorem at_cons {ev : Operand → TV} {σ : List (Nat × Nat)} {x : Operand} {xs : List Operand} {y : TV} {ys : List TV} {z : TV} (h : ev x = z) (hz : renT σ y = some z) (k : List.map (fun x => some (ev x)) xs = List.map (renT σ) ys) : List.map (fun x => some (ev x)) (x :: xs) = List.map (renT σ) (y :: ys) := by
  rw [List.map_cons, List.map_cons, h, hz, k]
end
end Go.Sim

namespace Go.Sim
section
variable {E : Env} {w0 : World} {M0 : Nat → Prop}

theorem Fits.setAt {w : World} {M : Nat → Prop} {cells cs : List G} {vcells vs : List Value} (off : Nat) (h : Fits w M cells vcells) (k : Fits w M cs vs) : Fits w M (Sim.setAt cells off cs) (Sim.setAt vcells off vs) := by
  unfold Sim.setAt
  rw [k.length]
  exact ((h.take off).append k).append (h.drop _)

theorem flatten_setAt {α : Type} {k : Nat} : ∀ {xs : List (List α)} (i : Nat) {c : List α} {j : Nat} {ds : List α}, (∀ c ∈ xs, c.length = k) → xs[i]? = some c → j + ds.length ≤ k →
    (xs.set i (setAt c j ds)).flatten = setAt xs.flatten (i * k + j) ds
  | [], i, c, j, ds, _, h, _ => by simp at h
  | x :: xs, 0, c, j, ds, hk, h, hj => by
    simp at h; subst h
    have hx : x.length = k := hk x List.mem_cons_self
    simp only [List.set_cons_zero, List.flatten_cons, setAt, Nat.zero_mul, Nat.zero_add]
    rw [List.take_append_of_le_length (by omega), List.drop_append_of_le_length (by omega)]
    simp [List.append_assoc]
  | x :: xs, i + 1, c, j, ds, hk, h, hj => by
    have hx : x.length = k := hk x List.mem_cons_self
    have ih := flatten_setAt i (c := c) (j := j) (ds := ds) (fun c hc => hk c (List.mem_cons_of_mem _ hc)) (by simpa using h) hj
    simp only [List.set_cons_succ, List.flatten_cons, ih]
    simp only [setAt]
    rw [show (i + 1) * k + j = x.length + (i * k + j) by rw [hx, Nat.succ_mul]; omega, List.take_length_add_append, show x.length + (i * k + j) + ds.length = x.length + (i * k + j + ds.length) by omega, List.drop_length_add_append]
    simp [List.append_assoc]

theorem setAt_len {α : Type} {l ds : List α} {j : Nat} (h : j + ds.length ≤ l.length) : (setAt l j ds).length = l.length := by
  simp only [setAt, List.length_append, List.length_take, List.length_drop]; omega

theorem drop_take_setAt {α : Type} {cur ds : List α} {o a n : Nat} (h1 : a + ds.length ≤ n) (h2 : o + n ≤ cur.length) : ((setAt cur (o + a) ds).drop o).take n = setAt ((cur.drop o).take n) a ds := by
  have hA : (cur.take (o + a)).length = o + a := by rw [List.length_take]; omega
  have hB : ((cur.drop o).take a).length = a := by rw [List.length_take, List.length_drop]; omega
  simp only [setAt]
  rw [List.append_assoc, List.drop_append_of_le_length (by omega), List.drop_take, show o + a - o = a by omega]
  have e1 : List.take n ((cur.drop o).take a) = (cur.drop o).take a := List.take_of_length_le (by omega)
  have e2 : List.take (n - a) ds = ds := List.take_of_length_le (by omega)
  have e3 : List.take a (List.take n (cur.drop o)) = List.take a (cur.drop o) := by rw [List.take_take, Nat.min_eq_left (by omega)]
  have e4 : List.drop (a + ds.length) (List.take n (cur.drop o)) = List.take (n - a - ds.length) (cur.drop (o + a + ds.length)) := by
    rw [List.drop_take, List.drop_drop, show n - (a + ds.length) = n - a - ds.length by omega, show o + (a + ds.length) = o + a + ds.length by omega]
  rw [List.take_append, e1, hB, List.take_append, e2, e3, e4, List.append_assoc]

/-- an element's address in a slice of the call's own -/
theorem eff_ixL {o : Oper} {ev : Operand → TV} {t el : TypeId} {x ix : Operand} {k id N : Nat} {b : Bool} {kk : IntKind} {n : Int} (ho : o.op = .indexAddr t x ix)
    (ht : E.P.underlying t = some (.slice el)) (he : tyK E.P el = some (k + 1, b)) (hx : ev x = .osl id (k + 1) 0 N) (hi : ev ix = .g (.lit (.int kk n))) (h0 : 0 ≤ n) (hn : n.toNat < N) (mem : Mem) :
    Eff E o mem ev (.eptr id (k + 1) n.toNat 0) := by
  have := eff_indexO (E := E) (mem := mem) ho ht he hx hi h0 (by simpa using hn)
  rwa [Nat.zero_add] at this

theorem eff_ldE {α : Type} {o : Oper} {mem : Mem} {ev : Operand → TV} {t e : TypeId} {x : Operand} {kk id k i j : Nat} {l : List α} {f : α → List G} {a : α} {g : G} (ho : o.op = .load t x) (ht : tyK E.P t = some (kk, false)) (hx : ev x = .eptr id k i j) (hb : lookO mem id = some (.arr e k (l.map f)))
    (ha : l[i]? = some a) (hj : (f a)[j]? = some g) : Eff E o mem ev (.g g) :=
  eff_loadE ho ht hx hb (by rw [List.getElem?_map, ha]; rfl) hj
theorem eff_ldEA {α : Type} {o : Oper} {mem : Mem} {ev : Operand → TV} {t e : TypeId} {x : Operand} {id k i : Nat} {l : List α} {f : α → List G} {a : α} (ho : o.op = .load t x) (ht : tyK E.P t = some (k, true)) (hx : ev x = .eptr id k i 0) (hb : lookO mem id = some (.arr e k (l.map f)))
    (ha : l[i]? = some a) : Eff E o mem ev (.g (.agg (f a))) :=
  eff_loadEA ho ht hx hb (by rw [List.getElem?_map, ha]; rfl) rfl

/-- a store into an element of a slice of the call's own -/
theorem eff_storeE {o : Oper} {mem : Mem} {ev : Operand → TV} {t e : TypeId} {x y : Operand} {kk id k i j : Nat} {b : Bool} {xs : List (List G)} {c ds : List G} {yv : G} (ho : o.op = .store t x y) (ht : tyK E.P t = some (kk, b)) (hx : ev x = .eptr id k i j) (hy : ev y = .g yv) [PartIs yv ds]
    (hb : lookO mem id = some (.arr e k xs)) (hi : xs[i]? = some c) (hk : ds.length = kk) (hj : j + kk ≤ k) : EffW E o mem ev undefT ((id, .arr e k (xs.set i (setAt c j ds))) :: mem) none := by
  intro w0 M0 ρ w e' hm he
  have h1 := he x (by rw [ho]; simp [Op.operands])
  rw [hx] at h1
  obtain ⟨ow, h2, h3⟩ := h1
  have h4 := he y (by rw [ho]; simp [Op.operands])
  rw [hy] at h4
  have h5 := PartIs.part (show yv.p w (owned M0 ρ) (e' y) from h4)
  rcases hm.blk id _ hb with ⟨g1, _⟩ | ⟨ow', cur, g1, g2, g3, g4, g5, g6, g7⟩
  · rw [h2] at g1; cases g1
  have : ow' = ow := by rw [h2] at g1; simpa using g1.symm
  subst this
  have hlt : i < xs.length := (List.getElem?_eq_some_iff.1 hi).1
  have hcap : ow'.o + ow'.cap * k ≤ cur.size := g5.resolve_left (by omega)
  have hik : i * k + k ≤ xs.length * k := by rw [← Nat.succ_mul]; exact Nat.mul_le_mul_right _ hlt
  have hck : xs.length * k ≤ ow'.cap * k := Nat.mul_le_mul_right _ g3
  have hds : j + ds.length ≤ k := by omega
  obtain ⟨w', cur', r1, r2, r3, r4, r5, r6, r7, r8⟩ := run_storeAt (P := E.P) (o0 := ow'.o + i * k + j) ht g2 (h5.length.trans hk) (by omega) h5.one
  have hrun : (execOp e' o).run E.P w = .ok .skip w' := by simp [execOp, ho, h3, r1]
  rw [hrun]
  have hd : Diff ρ id w w' := ⟨r6, r7, r8, by omega, fun b _ hne => r4 b (hne ow' h2)⟩
  have hM : ∀ b, b < w.heap.size → owned M0 (rhoSet ρ id (some ow')) b → owned M0 ρ b := by
    rintro b hb (h | ⟨i, o, h, rfl⟩)
    · exact .inl h
    · by_cases hi : i = id
      · subst hi; rw [rhoSet_same] at h; cases h; exact .inr ⟨i, ow', h2, rfl⟩
      · exact .inr ⟨i, o, by simpa [rhoSet, hi] using h, rfl⟩
  have hh : ∀ b, b < w.heap.size → ¬ owned M0 ρ b → w'.heap[b]? = w.heap[b]? := fun b _ hno => r4 b fun he => hno (.inr ⟨id, ow', h2, he.symm⟩)
  have hlen : (xs.set i (setAt c j ds)).length = xs.length := by simp
  have hc : c.length = k := g6 c (List.mem_of_getElem? hi)
  obtain ⟨k1, k2⟩ := mrel_upd (id := id) (x := some ow') (blk' := .arr e k (xs.set i (setAt c j ds))) none hm hd (fun o ho => by cases ho; exact ⟨.inr ⟨ow', h2, rfl⟩, by rw [r5]; exact (hm.fresh id ow' h2).2⟩) (.inr ⟨rfl, .inr h2⟩) (fun _ b _ _ => noref_none b) (.inl rfl)
    (.inr ⟨ow', cur', rhoSet_same _ _ _, r2, by rw [hlen]; exact g3, g4, .inr (by
        rw [← Array.length_toList (xs := cur'), r3, setAt_len (by rw [h5.length]; simp; omega)]; simpa using hcap), fun d hd => by
        rcases List.mem_or_eq_of_mem_set hd with hd | rfl
        · exact g6 d hd
        · rw [setAt_len (by omega)]; exact hc, by
        rw [r3, hlen, flatten_setAt i g6 hi hds, Nat.add_assoc, drop_take_setAt (by rw [h5.length]; omega) (by simp; omega)]
        exact (Fits.setAt (i * k + j) g7 h5).mono hh hM⟩)
  exact ⟨_, k1, k2, rfl⟩

theorem map_set_get {α β : Type} {f : α → β} {l : List α} {i : Nat} {a : α} : (l.set i a).map f = (l.map f).set i (f a) := by
  rw [List.map_set]

/-- a whole element is written -/
theorem eff_setL {α : Type} {o : Oper} {mem : Mem} {ev : Operand → TV} {t e : TypeId} {x y : Operand} {id k i : Nat} {b : Bool} {l : List α} {f : α → List G} {a' : α} {ds : List G} {yv : G} (ho : o.op = .store t x y) (ht : tyK E.P t = some (k, b)) (hx : ev x = .eptr id k i 0) (hy : ev y = .g yv) [PartIs yv ds]
    (hb : lookO mem id = some (.arr e k (l.map f))) (hi : i < l.length) (hds : ds = f a') (hf : ∀ x, (f x).length = k) : EffW E o mem ev undefT ((id, .arr e k ((l.set i a').map f)) :: mem) none := by
  have hg : (l.map f)[i]? = some (f l[i]) := by rw [List.getElem?_map, List.getElem?_eq_getElem hi]; rfl
  have hl : ds.length = k := by rw [hds, hf]
  have := eff_storeE (E := E) (mem := mem) ho ht hx hy hb hg hl (by omega)
  have hs : setAt (f l[i]) 0 ds = f a' := by
    simp only [setAt, List.take_zero, List.nil_append, Nat.zero_add]
    rw [List.drop_eq_nil_of_le (by rw [hf, hl]; exact Nat.le_refl _), List.append_nil, hds]
  rw [hs, ← map_set_get] at this
  exact this
/-! ### new slices -/
theorem madeCells_eq {z : Array Value} {n k : Nat} (hz : z.size = k) : (madeCells z (n * k)).toList = (List.replicate n z.toList).flatten := by
  subst hz
  apply List.ext_getElem?
  intro i
  have hlen : ∀ m, (List.replicate m z.toList).flatten.length = m * z.size := fun m => by simp
  by_cases hi : i < n * z.size
  · have hpos : 0 < z.size := by
      rcases Nat.eq_zero_or_pos z.size with h | h
      · rw [h] at hi; simp at hi
      · exact h
    have hmod : i % z.size < z.size := Nat.mod_lt _ hpos
    have h1 : (madeCells z (n * z.size)).toList[i]? = some z[i % z.size]! := by simp [madeCells, hi]
    rw [h1]
    have h2 : i = (i / z.size) * z.size + i % z.size := by rw [Nat.mul_comm]; exact (Nat.div_add_mod i z.size).symm
    have h3 : i / z.size < n := Nat.div_lt_of_lt_mul (by rw [Nat.mul_comm]; exact hi)
    have key : ∀ (m q r : Nat), q < m → r < z.size → (List.replicate m z.toList).flatten[q * z.size + r]? = z[r]? := by
      intro m
      induction m with
      | zero => intro q r h; omega
      | succ m ih =>
        intro q r hq hr
        rw [List.replicate_succ, List.flatten_cons]
        cases q with
        | zero => rw [Nat.zero_mul, Nat.zero_add, List.getElem?_append_left (by simpa using hr)]; simp
        | succ q =>
          rw [List.getElem?_append_right (by simp [Nat.succ_mul]; omega)]
          rw [show (q + 1) * z.size + r - z.toList.length = q * z.size + r by simp [Nat.succ_mul]; omega]
          exact ih q r (by omega) hr
    rw [h2, key n _ _ h3 hmod, ← h2]
    simp [hmod]
  · rw [List.getElem?_eq_none (by simp [size_madeCells]; omega), List.getElem?_eq_none (by rw [hlen]; omega)]

theorem fits_rep {w : World} {M : Nat → Prop} {c : List G} {vs : List Value} (h : Fits w M c vs) : ∀ n, Fits w M (List.replicate n c).flatten (List.replicate n vs).flatten
  | 0 => by simp [Fits]
  | n + 1 => by
    rw [List.replicate_succ, List.replicate_succ, List.flatten_cons, List.flatten_cons]
    exact h.append (fits_rep h n)

def mkK (P : Program) (t : TypeId) : Option (TypeId × Nat × Nat × List Value) := match appK P t with
  | some (e, k, by_) => match P.info? e with
    | some i => match i.zero with
      | some z => some (e, k, by_, z.cells.toList)
      | none => none
    | none => none
  | none => none

theorem eff_makeS {α : Type} {o : Oper} {mem : Mem} {ev : Operand → TV} {t e : TypeId} {x y : Operand} {k by_ N : Nat} {c : Int} {n : Int} {zs : List Value} {f : α → List G} {z : α} (id : Nat) (ho : o.op = .makeSlice t x y) (ht : mkK E.P t = some (e, k, by_ + 1, zs)) (hx : ev x = .g (.int n)) (hy : ev y = .g (.int c))
    (hn : n = (N : Int)) (hnc : n ≤ c) (hb : c * ((by_ + 1 : Nat) : Int) ≤ 281474976710656) (hf : lookO mem id = none) (hz : zs.map G.lit = f z) (hz1 : zs.all Value.oneCell' = true) : EffW E o mem ev (.osl id k 0 N) ((id, .arr e k ((List.replicate N z).map f)) :: mem) none := by
  intro w0 M0 ρ w e' hm he
  subst hn
  have h1 := he x (by rw [ho]; simp [Op.operands])
  rw [hx] at h1
  have h1' : e' x = .int .i64 N := h1
  have h2 := he y (by rw [ho]; simp [Op.operands])
  rw [hy] at h2
  have h2' : e' y = .int .i64 c := h2
  unfold mkK at ht
  split at ht
  · rename_i e1 k1 b1 happ
    obtain ⟨i, zv, t1, t2, t3, t4, t5, t6⟩ := appK_spec happ
    rw [t2] at ht
    simp only [t3, Option.some.injEq, Prod.mk.injEq] at ht
    obtain ⟨rfl, rfl, rfl, rfl⟩ := ht
    have hc0 : 0 ≤ c := by omega
    have hc63 : c ≤ 281474976710656 := by
      have : c * 1 ≤ c * ((by_ + 1 : Nat) : Int) := Int.mul_le_mul_of_nonneg_left (by omega) hc0
      omega
    have hr := run_make (P := E.P) w t e1 i zv t1 t2 t3 .i64 .i64 (N : Int) c (by omega) hnc (by rw [t5, Int.mul_comm]; exact hb) (by omega)
    have hrun : (execOp e' o).run E.P w = .ok (.value (.slice (some ⟨w.heap.size, 0, none⟩) N c.toNat)) (w.alloc (.cells (madeCells zv.cells (c.toNat * k1)) e1)) := by
      simp only [execOp, ho, h1', h2', Sem.run_bind, hr, Result.andThen_ok, Sem.run_pure, Int.toNat_natCast, t4]
    rw [hrun]
    have hr0 := rho_none hm hf
    have hg := Grow.alloc w (.cells (madeCells zv.cells (c.toNat * k1)) e1)
    have hM : ∀ b, b < w.heap.size → owned M0 (rhoSet ρ id (some ⟨w.heap.size, 0, c.toNat⟩)) b → owned M0 ρ b := by
      rintro b hb (h | ⟨i, o, h, rfl⟩)
      · exact .inl h
      · by_cases hi : i = id
        · subst hi; rw [rhoSet_same] at h; cases h; simp at hb
        · exact .inr ⟨i, o, by simpa [rhoSet, hi] using h, rfl⟩
    have hzf : Fits w (owned M0 ρ) (f z) zv.cells.toList := by rw [← hz]; exact fits_lits (fun v hv => List.all_eq_true.1 hz1 v hv)
    have hkz : (f z).length = k1 := by rw [← hzf.length, Array.length_toList, t6]
    have hN : N ≤ c.toNat := by omega
    obtain ⟨g1, g2⟩ := mrel_upd (id := id) (x := some ⟨w.heap.size, 0, c.toNat⟩) (blk' := .arr e1 k1 ((List.replicate N z).map f)) none hm (diff_alloc ρ id w (.cells (madeCells zv.cells (c.toNat * k1)) e1)) (fun o ho => by cases ho; exact ⟨.inl (Nat.le_refl _), by simp⟩) (.inr ⟨rfl, .inl hr0⟩) (fun _ b _ _ => noref_none b) (.inl rfl)
      (.inr ⟨⟨w.heap.size, 0, c.toNat⟩, _, rhoSet_same _ _ _, heap_alloc_new w _, by simpa using hN, by show c.toNat ≤ maxLen; unfold maxLen; omega, .inr (by show 0 + c.toNat * k1 ≤ _; rw [size_madeCells]; omega), fun d hd => by
        obtain ⟨y, hy, rfl⟩ := List.mem_map.1 hd
        rw [List.eq_of_mem_replicate hy]; exact hkz, by
        show Fits _ _ _ ((List.drop 0 _).take _)
        rw [List.drop_zero, madeCells_eq t6, List.map_replicate, List.length_replicate]
        have : ((List.replicate c.toNat zv.cells.toList).flatten).take (N * k1) = (List.replicate N zv.cells.toList).flatten := by
          have e1 : List.replicate c.toNat zv.cells.toList = List.replicate N zv.cells.toList ++ List.replicate (c.toNat - N) zv.cells.toList := by rw [List.replicate_append_replicate]; congr 1; omega
          rw [e1, List.flatten_append, show N * k1 = ((List.replicate N zv.cells.toList).flatten).length by simp [t6], List.take_left']
          simp [t6]
        rw [this]
        exact (fits_rep hzf N).mono hg.hh hM⟩)
    exact ⟨_, g1, g2, .inr ⟨⟨w.heap.size, 0, c.toNat⟩, rhoSet_same _ _ _, Nat.zero_le _, hN, 0, by simp, fun _ => by simp⟩⟩
  · cases ht

/-! ### copy -/
def copyL {α : Type} (d s : List α) : List α := s.take d.length ++ d.drop s.length

theorem eff_copyL {α : Type} {o : Oper} {mem : Mem} {ev : Operand → TV} {t t2 e : TypeId} {x y : Operand} {k by_ id N : Nat} {d s : List α} {f : α → List G} (ho : o.op = .call ⟨.builtin .copy, #[x, y], #[t, t2]⟩) (ha : appK E.P t = some (e, k + 1, by_)) (hx : ev x = .osl id (k + 1) 0 N) (hN : d.length = N)
    (hb : lookO mem id = some (.arr e (k + 1) (d.map f))) (hsrc : SrcT E mem (k + 1) (s.map f) (ev y)) : EffW E o mem ev (.g (.int ((min s.length d.length : Nat) : Int))) ((id, .arr e (k + 1) ((copyL d s).map f)) :: mem) none := by
  intro w0 M0 ρ w e' hm he
  subst hN
  have h1 := he x (by rw [ho]; simp [Op.operands, Call.operands])
  rw [hx] at h1
  have h2 := he y (by rw [ho]; simp [Op.operands, Call.operands])
  obtain ⟨i, z, t1, t2', t3, t4, t5, t6⟩ := appK_spec ha
  obtain ⟨news, n1, nl, a, cp, hv, ncell⟩ := hsrc.2 w0 M0 ρ w _ hm h2
  have hmin : (Nat.min s.length d.length) = min s.length d.length := rfl
  have hnl : news.length = s.length * (k + 1) := by rw [nl, List.length_map]
  rw [List.length_map] at hv
  let cs := news.take (min s.length d.length * (k + 1))
  have hle : min s.length d.length * (k + 1) ≤ s.length * (k + 1) := Nat.mul_le_mul_right _ (Nat.min_le_left _ _)
  have hcs : cs.length = min s.length d.length * (k + 1) := by simp only [cs, List.length_take]; omega
  have hone : ∀ u ∈ cs, u.oneCell' = true := fun u hu => n1.one u (List.mem_of_mem_take hu)
  -- what is read
  have hfirst : (Builtin.firstCells (k + 1) (min s.length d.length) (.slice a s.length cp)).run E.P w = .ok cs.toArray w := by
    by_cases h0 : min s.length d.length = 0
    · have : cs = [] := List.eq_nil_of_length_eq_zero (by rw [hcs, h0]; simp)
      rw [h0, this]
      cases a with
      | none => simp [Builtin.firstCells]
      | some a => simp [Builtin.firstCells, loadCells, loadCellsFrom]
    · rcases ncell with h | ⟨b, o', rfl, hcell⟩
      · rw [List.length_map] at h; omega
      · refine run_firstCells_some (P := E.P) w (k + 1) _ ⟨b, o', none⟩ _ cp cs hcs ?_
        intro j v hj
        rw [Addr.add_lit]
        refine hcell j v ?_
        simp only [cs, List.getElem?_take] at hj
        split at hj
        · exact hj
        · cases hj
  have hlenS : (Builtin.lenOf (.slice a s.length cp)).run E.P w = .ok s.length w := by simp [Builtin.lenOf]
  have hcopy : copyL d s = (s.take (min s.length d.length)) ++ d.drop (min s.length d.length) := by
    unfold copyL
    rcases Nat.le_total s.length d.length with h | h
    · rw [Nat.min_eq_left h, List.take_of_length_le h, List.take_of_length_le (Nat.le_refl _)]
    · rw [Nat.min_eq_right h, List.drop_eq_nil_of_le h, List.drop_eq_nil_of_le (Nat.le_refl _)]
  have hclen : (copyL d s).length = d.length := by rw [hcopy, List.length_append, List.length_take, List.length_drop]; omega
  rcases hm.blk id _ hb with ⟨g1, g2⟩ | ⟨ow, cur, g1, g2, g3, g4, g5, g6, g7⟩
  · -- the nil slice
    have hd0 : d = [] := by simpa using g2
    subst hd0
    have hex : e' x = .slice none 0 0 := by
      rcases h1 with ⟨_, _, _, h⟩ | ⟨ow, h, _⟩
      · exact h
      · rw [g1] at h; cases h
    have hrun : (execOp e' o).run E.P w = .ok (.value (.int .i64 0)) w := by
      simp [execOp, ho, resolve, invoke, builtin, Builtin.copy_, hex, hv, run_underlying t1, hlenS, sizeOf, typeInfo, t2', t4, goInt]
      have := hfirst
      simp at this
      rw [this]; rfl
    rw [hrun]
    have hc0 : copyL ([] : List α) s = [] := by simp [copyL]
    obtain ⟨k1, k2⟩ := mrel_upd (id := id) (x := none) (blk' := .arr e (k + 1) ((copyL ([] : List α) s).map f)) none hm ⟨rfl, rfl, rfl, Nat.le_refl _, fun _ _ _ => rfl⟩ (fun _ h => by cases h) (.inr ⟨rfl, .inr g1⟩) (fun _ b _ _ => noref_none b) (.inl rfl) (.inl ⟨rhoSet_same _ _ _, by rw [hc0]; rfl⟩)
    exact ⟨_, k1, k2, by simp; rfl⟩
  · rw [List.length_map] at g3 g7
    have hex : ∃ cap, e' x = .slice (some ⟨ow.b, ow.o, none⟩) d.length cap ∧ (0 < ow.cap) ∨ (d.length = 0 ∧ ∃ p, e' x = .slice (some ⟨ow.b, p, none⟩) d.length cap) := by
      rcases h1 with ⟨h, _⟩ | ⟨ow', h, _, h4, p, h5, h6⟩
      · rw [g1] at h; cases h
      · have : ow' = ow := by rw [g1] at h; simpa using h.symm
        subst this
        by_cases hc : 0 < ow'.cap
        · have := h6 hc
          rw [Nat.zero_mul, Nat.add_zero] at this
          subst this
          exact ⟨ow'.cap, .inl ⟨by simpa using h5, hc⟩⟩
        · refine ⟨ow'.cap, .inr ⟨by omega, p, by simpa using h5⟩⟩
    have hstore : ∃ w' cur', (execOp e' o).run E.P w = .ok (.value (.int .i64 ((min s.length d.length : Nat) : Int))) w' ∧ w'.heap[ow.b]? = some (.cells cur' e (0, 0)) ∧ cur'.toList = setAt cur.toList ow.o cs ∧ (∀ b, b ≠ ow.b → w'.heap[b]? = w.heap[b]?) ∧ w'.heap.size = w.heap.size ∧ w'.os = w.os ∧ w'.tape = w.tape ∧ w'.output = w.output := by
      obtain ⟨cap, hex | ⟨hd0, p, hex⟩⟩ := hex
      · have hcap := g5.resolve_left (by omega)
        have hfit : ow.o + 0 + cs.length ≤ cur.size := by
          rw [hcs]
          have : min s.length d.length * (k + 1) ≤ ow.cap * (k + 1) := Nat.mul_le_mul_right _ (Nat.le_trans (Nat.min_le_right _ _) g3)
          omega
        obtain ⟨w', cur', r1, r2, r3, r4, r5, r6, r7, r8⟩ := run_storeCells (P := E.P) ow.b ow.o e cs 0 cur w g2 hfit hone
        refine ⟨w', cur', ?_, r2, by simpa using r3, r4, r5, r6, r7, r8⟩
        simp [execOp, ho, resolve, invoke, builtin, Builtin.copy_, hex.1, hv, run_underlying t1, hlenS, sizeOf, typeInfo, t2', t4, goInt, hmin, hfirst, r1]
      · have hcs0 : cs = [] := List.eq_nil_of_length_eq_zero (by rw [hcs, hd0]; simp)
        have hf0 := hfirst
        rw [hcs0, hd0] at hf0
        simp at hf0
        refine ⟨w, cur, ?_, g2, by rw [hcs0]; simp [setAt], fun _ _ => rfl, rfl, rfl, rfl, rfl⟩
        simp [execOp, ho, resolve, invoke, builtin, Builtin.copy_, hex, hd0, hv, run_underlying t1, hlenS, sizeOf, typeInfo, t2', t4, goInt, hf0, storeCells]
    obtain ⟨w', cur', hrun, r2, r3, r4, r5, r6, r7, r8⟩ := hstore
    rw [hrun]
    have hdf : Diff ρ id w w' := ⟨r6, r7, r8, by omega, fun b _ hne => r4 b (hne ow g1)⟩
    have hM : ∀ b, b < w.heap.size → owned M0 (rhoSet ρ id (some ow)) b → owned M0 ρ b := by
      rintro b hb (h | ⟨i, o, h, rfl⟩)
      · exact .inl h
      · by_cases hi : i = id
        · subst hi; rw [rhoSet_same] at h; cases h; exact .inr ⟨i, ow, g1, rfl⟩
        · exact .inr ⟨i, o, by simpa [rhoSet, hi] using h, rfl⟩
    have hh : ∀ b, b < w.heap.size → ¬ owned M0 ρ b → w'.heap[b]? = w.heap[b]? := fun b _ hno => r4 b fun he => hno (.inr ⟨id, ow, g1, he.symm⟩)
    have hfk : ∀ c ∈ (copyL d s).map f, c.length = k + 1 := by
      intro c hc
      obtain ⟨y, hy, rfl⟩ := List.mem_map.1 hc
      rw [hcopy] at hy
      rcases List.mem_append.1 hy with hy | hy
      · exact hsrc.1 _ (List.mem_map.2 ⟨y, List.mem_of_mem_take hy, rfl⟩)
      · exact g6 _ (List.mem_map.2 ⟨y, List.mem_of_mem_drop hy, rfl⟩)
    obtain ⟨k1, k2⟩ := mrel_upd (id := id) (x := some ow) (blk' := .arr e (k + 1) ((copyL d s).map f)) none hm hdf (fun o ho => by cases ho; exact ⟨.inr ⟨ow, g1, rfl⟩, by rw [r5]; exact (hm.fresh id ow g1).2⟩) (.inr ⟨rfl, .inr g1⟩) (fun _ b _ _ => noref_none b) (.inl rfl)
      (.inr ⟨ow, cur', rhoSet_same _ _ _, r2, by rw [List.length_map, hclen]; exact g3, g4, g5.imp (fun h => h) (fun h => by
          rw [← Array.length_toList (xs := cur'), r3]
          simp only [setAt, List.length_append, List.length_take, List.length_drop, Array.length_toList]; omega), hfk, by
          rw [List.length_map, hclen, r3]
          rcases g5 with g5 | g5
          · have hd0 : d.length = 0 := by omega
            have : copyL d s = [] := List.eq_nil_of_length_eq_zero (by rw [hclen, hd0])
            rw [this, hd0]; simp [Fits]
          · have hdk : d.length * (k + 1) ≤ ow.cap * (k + 1) := Nat.mul_le_mul_right _ g3
            have hsk : min s.length d.length * (k + 1) ≤ d.length * (k + 1) := Nat.mul_le_mul_right _ (Nat.min_le_right _ _)
            have := drop_take_setAt (cur := cur.toList) (ds := cs) (o := ow.o) (a := 0) (n := d.length * (k + 1)) (by omega) (by simp; omega)
            simp only [Nat.add_zero] at this
            rw [this, hcopy, List.map_append, List.flatten_append, List.map_take, List.map_drop, ← flatten_take (k := k + 1) _ (fun c hc => hsrc.1 c hc), ← flatten_drop (k := k + 1) _ g6]
            simp only [setAt, List.take_zero, List.nil_append, Nat.zero_add, hcs]
            exact ((n1.take _).append (g7.drop _)).mono hh hM⟩)
    exact ⟨_, k1, k2, rfl⟩
end
end Go.Sim

namespace Go.Sim
section
variable {E : Env} {w0 : World} {M0 : Nat → Prop}

/-! ### maps of the call's own -/
def mget {K V : Type} [DecidableEq K] : List (K × V) → K → Option V
  | [], _ => none
  | (a, b) :: r, k => bif decide (a = k) then some b else mget r k
def mset {K V : Type} [DecidableEq K] : List (K × V) → K → V → List (K × V)
  | [], k, v => [(k, v)]
  | (a, b) :: r, k, v => bif decide (a = k) then (k, v) :: r else (a, b) :: mset r k v
def mgetD {K V : Type} [DecidableEq K] (m : List (K × V)) (k : K) (z : V) : V := match mget m k with
  | some v => v
  | none => z
def mhas {K V : Type} [DecidableEq K] (m : List (K × V)) (k : K) : Bool := (mget m k).isSome

class MKey {K : Type} (kf : K → Value) (d : outParam TypeDesc) : Prop where
  isKey : ∀ a, MapKept.IsKey d (kf a)
  inj : ∀ a b, kf a = kf b → a = b
instance : MKey (Value.int .i64) (.int .i64) := ⟨fun _ => rfl, fun a b h => by injection h⟩
instance : MKey Value.string .string := ⟨fun _ => trivial, fun a b h => by injection h⟩
instance : MKey Value.bool .bool := ⟨fun _ => trivial, fun a b h => by injection h⟩

/-- a map as it lies -/
def mpB {K V : Type} (kf : K → Value) (vf : V → G) (m : List (K × V)) : Blk := .mp (m.map fun p => (kf p.1, vf p.2))

section find
variable {K V : Type} [DecidableEq K] {kf : K → Value} {vf : V → G} {d : TypeDesc} [MKey kf d] {w : World} {M : Nat → Prop}
theorem mfind {k : K} : ∀ {m : List (K × V)} {l : List MapEntry} (i : Nat), MFits w M (m.map fun p => (kf p.1, vf p.2)) l →
    (mget m k = none ∧ Instr.findNow d (kf k) l i = some none ∧ (∀ x ∈ l, x.key ≠ kf k) ∧ ∀ v, mset m k v = m ++ [(k, v)]) ∨
    ∃ j e b, mget m k = some b ∧ Instr.findNow d (kf k) l i = some (some (i + j, e.val)) ∧ l[j]? = some e ∧ e.key = kf k ∧ (vf b).p w M e.val ∧ ∀ v, mset m k v = m.set j (k, v)
  | [], [], i, _ => .inl ⟨rfl, rfl, by simp, fun _ => rfl⟩
  | (a, b) :: m, e :: l, i, h => by
    obtain ⟨⟨h1, h2⟩, h3⟩ := h
    obtain ⟨r, hr, hiff⟩ := MapKept.sameNow_of_keys (MKey.isKey (kf := kf) k) (show MapKept.IsKey d e.key by rw [h1]; exact MKey.isKey (kf := kf) a)
    by_cases hak : a = k
    · subst hak
      have : r = true := hiff.2 h1.symm
      subst this
      exact .inr ⟨0, e, b, by simp [mget], by simp [Instr.findNow, hr], rfl, h1, h2, fun v => by simp [mset]⟩
    · have hne : e.key ≠ kf k := fun q => hak (MKey.inj (kf := kf) a k (h1.symm.trans q))
      have : r = false := by cases r with
        | true => exact absurd (hiff.1 rfl).symm hne
        | false => rfl
      subst this
      rcases mfind (k := k) (i + 1) h3 with ⟨g1, g2, g3, g4⟩ | ⟨j, e', b', g1, g2, g3, g4, g5, g6⟩
      · exact .inl ⟨by simp [mget, hak, g1], by simp [Instr.findNow, hr, g2], fun x hx => by
          rcases List.mem_cons.1 hx with rfl | hx
          · exact hne
          · exact g3 x hx, fun v => by simp [mset, hak, g4]⟩
      · exact .inr ⟨j + 1, e', b', by simp [mget, hak, g1], by simp [Instr.findNow, hr, g2]; omega, by simpa using g3, g4, g5, fun v => by simp [mset, hak, g6]⟩
  | [], _ :: _, _, h => h.elim
  | _ :: _, [], _, h => h.elim
theorem MFits.push : ∀ {es : List (Value × G)} {l : List MapEntry} {x : Value × G} {e : MapEntry}, MFits w M es l → e.key = x.1 → x.2.p w M e.val → MFits w M (es ++ [x]) (l ++ [e])
  | [], [], (_, _), _, _, h1, h2 => ⟨⟨h1, h2⟩, trivial⟩
  | (_, _) :: _, _ :: _, _, _, h, h1, h2 => ⟨h.1, MFits.push h.2 h1 h2⟩
  | [], _ :: _, _, _, h, _, _ => h.elim
  | _ :: _, [], _, _, h, _, _ => h.elim
theorem MFits.set : ∀ {es : List (Value × G)} {l : List MapEntry} {x : Value × G} {e : MapEntry} (j : Nat), MFits w M es l → e.key = x.1 → x.2.p w M e.val → MFits w M (es.set j x) (l.set j e)
  | [], [], _, _, _, h, _, _ => h
  | (_, _) :: _, _ :: _, (_, _), _, 0, h, h1, h2 => ⟨⟨h1, h2⟩, h.2⟩
  | (_, _) :: _, _ :: _, _, _, j + 1, h, h1, h2 => ⟨h.1, MFits.set j h.2 h1 h2⟩
  | [], _ :: _, _, _, _, h, _, _ => h.elim
  | _ :: _, [], _, _, _, h, _, _ => h.elim
end find

theorem look_mp {ρ : Rho} {w : World} {mem : Mem} {id : Nat} {es : List (Value × G)} {v : Value} (hm : MRel E w0 M0 ρ mem w) (hb : lookO mem id = some (.mp es)) (hv : TRel w (owned M0 ρ) ρ (.omap id) v) :
    ∃ ow entries clock, ρ id = some (some ow) ∧ v = .map (some ow.b) ∧ w.heap[ow.b]? = some (.map entries clock) ∧ MFits w (owned M0 ρ) es entries.toList ∧ MapKept.Stamped entries clock := by
  obtain ⟨ow, h1, h2⟩ := hv
  obtain ⟨ow', en, cl, g1, g2, g3, g4⟩ := hm.blk id _ hb
  have : ow' = ow := by rw [h1] at g1; simpa using g1.symm
  subst this
  exact ⟨ow', en, cl, h1, h2, g2, g3, g4⟩

theorem eff_makeMap {o : Oper} {mem : Mem} {ev : Operand → TV} {t : TypeId} (id : Nat) (ho : o.op = .makeMap t none) (hf : lookO mem id = none) : EffW E o mem ev (.omap id) ((id, .mp []) :: mem) none := by
  intro w0 M0 ρ w e' hm _
  have hrun : (execOp e' o).run E.P w = .ok (.value (.map (some w.heap.size))) (w.alloc (.map #[] 0)) := by simp [execOp, ho, Instr.makeMap]
  rw [hrun]
  have hr0 := rho_none hm hf
  obtain ⟨k1, k2⟩ := mrel_upd (id := id) (x := some ⟨w.heap.size, 0, 0⟩) (blk' := .mp []) none hm (diff_alloc ρ id w (.map #[] 0)) (fun o ho => by cases ho; exact ⟨.inl (Nat.le_refl _), by simp⟩) (.inr ⟨rfl, .inl hr0⟩) (fun _ b _ _ => noref_none b) (.inl rfl)
    ⟨⟨w.heap.size, 0, 0⟩, #[], 0, rhoSet_same _ _ _, heap_alloc_new w _, trivial, MapKept.stamped_empty 0⟩
  exact ⟨_, k1, k2, ⟨w.heap.size, 0, 0⟩, rhoSet_same _ _ _, rfl⟩

section ops
variable {K V : Type} [DecidableEq K] {kf : K → Value} {vf : V → G} {d : TypeDesc} [MKey kf d] {o : Oper} {mem : Mem} {ev : Operand → TV} {t kt et : TypeId} {x ix : Operand} {id : Nat} {m : List (K × V)} {k : K} {z : V}

theorem run_lookup {ρ : Rho} {w : World} (hm : MRel E w0 M0 ρ mem w) (ht : E.P.underlying t = some (.map kt et)) (hk : E.P.underlying kt = some d) {zv : Value} (hz : (E.P.info? et).bind (·.zero) = some zv) (hz0 : ∀ w M, (vf z).p w M zv)
    (hb : lookO mem id = some (mpB kf vf m)) {v : Value} (hv : TRel w (owned M0 ρ) ρ (.omap id) v) (ok : Bool) : ∃ u, (vf (mgetD m k z)).p w (owned M0 ρ) u ∧ (Instr.lookup t v (kf k) ok).run E.P w = .ok (if ok then .tuple #[u, .bool (mhas m k)] else u) w := by
  obtain ⟨ow, en, cl, h1, rfl, h2, h3, _⟩ := look_mp hm hb hv
  have hzr : (zeroValue et).run E.P w = .ok zv w := by
    cases hi : E.P.info? et with
    | none => rw [hi] at hz; cases hz
    | some i =>
      rw [hi] at hz
      have hz : i.zero = some zv := hz
      simp [zeroValue, typeInfo, hi, hz]
  have hck := MapKept.run_checkKey (w := w) hk (MKey.isKey (kf := kf) k) en.isEmpty 9999
  rcases mfind (kf := kf) (vf := vf) (k := k) 0 h3 with ⟨g1, g2, _⟩ | ⟨j, e, b, g1, g2, g3, g4, g5, _⟩
  · refine ⟨zv, by simp only [mgetD, g1]; exact hz0 _ _, ?_⟩
    simp [Instr.lookup, run_underlying ht, MapKept.run_getObj_map h2, hck, MapKept.run_findKey hk g2, hzr, mhas, g1]
  · refine ⟨e.val, by simp only [mgetD, g1]; exact g5, ?_⟩
    simp [Instr.lookup, run_underlying ht, MapKept.run_getObj_map h2, hck, MapKept.run_findKey hk g2, mhas, g1]

/-- 'm[k]' -/
theorem eff_lookup {zv : Value} (ho : o.op = .lookup t x ix false) (ht : E.P.underlying t = some (.map kt et)) (hk : E.P.underlying kt = some d) (hz : (E.P.info? et).bind (·.zero) = some zv) (hz0 : ∀ w M, (vf z).p w M zv)
    (hx : ev x = .omap id) (hi : ev ix = .g (.lit (kf k))) (hb : lookO mem id = some (mpB kf vf m)) : Eff E o mem ev (.g (vf (mgetD m k z))) := by
  intro w0 M0 ρ w e hm he
  have h1 := he x (by rw [ho]; simp [Op.operands])
  rw [hx] at h1
  have h2 := he ix (by rw [ho]; simp [Op.operands])
  rw [hi] at h2
  have h2' : e ix = kf k := h2
  obtain ⟨u, g1, g2⟩ := run_lookup (z := z) (k := k) hm ht hk hz hz0 hb h1 false
  have : (execOp e o).run E.P w = .ok (.value u) w := by simp only [execOp, ho, h2', Sem.run_bind, g2, Result.andThen_ok, Sem.run_pure]; rfl
  rw [this]
  exact ⟨Grow.refl w, g1⟩
/-- 'v, ok := m[k]' -/
theorem eff_lookup2 {zv : Value} (ho : o.op = .lookup t x ix true) (ht : E.P.underlying t = some (.map kt et)) (hk : E.P.underlying kt = some d) (hz : (E.P.info? et).bind (·.zero) = some zv) (hz0 : ∀ w M, (vf z).p w M zv)
    (hx : ev x = .omap id) (hi : ev ix = .g (.lit (kf k))) (hb : lookO mem id = some (mpB kf vf m)) : Eff E o mem ev (.g (.tup [vf (mgetD m k z), G.bool (mhas m k)])) := by
  intro w0 M0 ρ w e hm he
  have h1 := he x (by rw [ho]; simp [Op.operands])
  rw [hx] at h1
  have h2 := he ix (by rw [ho]; simp [Op.operands])
  rw [hi] at h2
  have h2' : e ix = kf k := h2
  obtain ⟨u, g1, g2⟩ := run_lookup (z := z) (k := k) hm ht hk hz hz0 hb h1 true
  have : (execOp e o).run E.P w = .ok (.value (.tuple #[u, .bool (mhas m k)])) w := by simp only [execOp, ho, h2', Sem.run_bind, g2, Result.andThen_ok, Sem.run_pure]; rfl
  rw [this]
  exact ⟨Grow.refl w, [u, .bool (mhas m k)], rfl, g1, rfl, trivial⟩

theorem toList_modify {es : Array MapEntry} {j : Nat} {e : MapEntry} {F : MapEntry → MapEntry} (h : es.toList[j]? = some e) : (es.modify j F).toList = es.toList.set j (F e) := by
  apply List.ext_getElem?
  intro i
  simp only [Array.getElem?_toList, Array.getElem?_modify, List.getElem?_set]
  have h' : es[j]? = some e := by simpa using h
  have hlt : j < es.size := (Array.getElem?_eq_some_iff.1 h').1
  by_cases hij : j = i
  · subst hij; rw [if_pos rfl, if_pos rfl, h']; simp [hlt]
  · simp [hij]

/-- 'm[k] = v' -/
theorem eff_update {y : Operand} {v : V} {ins : Bool} (ho : o.op = (if ins then .insert t x ix y else .mapUpdate t x ix y)) (ht : E.P.underlying t = some (.map kt et)) (hk : E.P.underlying kt = some d)
    (hx : ev x = .omap id) (hi : ev ix = .g (.lit (kf k))) (hy : ev y = .g (vf v)) (hb : lookO mem id = some (mpB kf vf m)) : EffW E o mem ev undefT ((id, mpB kf vf (mset m k v)) :: mem) none := by
  intro w0 M0 ρ w e' hm he
  have hop : ∀ (P : Op → Prop), P (.insert t x ix y) → P (.mapUpdate t x ix y) → P o.op := fun P h1 h2 => by rw [ho]; cases ins <;> assumption
  have hmem : ∀ q, q = x ∨ q = ix ∨ q = y → q ∈ o.op.operands := fun q hq => by
    rw [ho]; cases ins <;> simp [Op.operands] <;> exact hq
  have h1 := he x (hmem _ (.inl rfl))
  rw [hx] at h1
  have h2 := he ix (hmem _ (.inr (.inl rfl)))
  rw [hi] at h2
  have h2' : e' ix = kf k := h2
  have h3 := he y (hmem _ (.inr (.inr rfl)))
  rw [hy] at h3
  have h3' : (vf v).p w (owned M0 ρ) (e' y) := h3
  obtain ⟨ow, en, cl, g1, g2, g3, g4, g5⟩ := look_mp hm hb h1
  have hck := MapKept.run_checkKey (w := w) hk (MKey.isKey (kf := kf) k) false 9999
  have hexec : execOp e' o = (do Instr.mapUpdate t (e' x) (e' ix) (e' y); pure .skip) := by cases ins <;> simp [execOp, ho]
  have hset : ∀ (ob : Obj), (w.heap.setIfInBounds ow.b ob).size = w.heap.size := fun ob => by simp
  have hlt : ow.b < w.heap.size := (Array.getElem?_eq_some_iff.1 g3).1
  -- what the new map is
  obtain ⟨en', cl', hrun, hf, hst⟩ : ∃ en' cl', (Instr.mapUpdate t (e' x) (e' ix) (e' y)).run E.P w = .ok () { w with heap := w.heap.setIfInBounds ow.b (.map en' cl') } ∧ MFits w (owned M0 ρ) ((mset m k v).map fun p => (kf p.1, vf p.2)) en'.toList ∧ MapKept.Stamped en' cl' := by
    rcases mfind (kf := kf) (vf := vf) (k := k) 0 g4 with ⟨q1, q2, q3, q4⟩ | ⟨j, e, b, q1, q2, q3, q4, q5, q6⟩
    · refine ⟨en.push { key := kf k, val := e' y, born := cl }, cl + 1, ?_, ?_, MapKept.stamped_push g5 q3⟩
      · simp [Instr.mapUpdate, g2, h2', run_underlying ht, MapKept.run_getObj_map g3, hck, MapKept.run_findKey hk q2, MapKept.run_setObj_map _ g3]
      · rw [q4 v, List.map_append, Array.toList_push]
        exact MFits.push g4 rfl h3'
    · have hj : en[j]? = some e := by simpa using q3
      refine ⟨en.modify j fun e => { e with key := kf k, val := e' y }, cl, ?_, ?_, MapKept.stamped_modify g5 _ _ (fun _ _ => rfl) (fun e0 _ he0 => by rw [hj] at he0; cases he0; exact q4.symm)⟩
      · rw [Nat.zero_add] at q2
        simp [Instr.mapUpdate, g2, h2', run_underlying ht, MapKept.run_getObj_map g3, hck, MapKept.run_findKey hk q2, hj, q4, MapKept.run_keyThatStays (MKey.isKey (kf := kf) k), MapKept.run_setObj_map _ g3]
      · rw [q6 v, toList_modify q3, List.map_set]
        exact MFits.set j g4 rfl h3'
  have hrun2 : (execOp e' o).run E.P w = .ok .skip { w with heap := w.heap.setIfInBounds ow.b (.map en' cl') } := by rw [hexec, Sem.run_bind, hrun]; rfl
  rw [hrun2]
  have hoth := (MapKept.heap_set (o' := .map en' cl') g3).2
  have hd : Diff ρ id w { w with heap := w.heap.setIfInBounds ow.b (.map en' cl') } := ⟨rfl, rfl, rfl, by simp, fun b _ hne => hoth b (hne ow g1)⟩
  have hM : ∀ b, b < w.heap.size → owned M0 (rhoSet ρ id (some ow)) b → owned M0 ρ b := by
    rintro b hb (h | ⟨i, o, h, rfl⟩)
    · exact .inl h
    · by_cases hi : i = id
      · subst hi; rw [rhoSet_same] at h; cases h; exact .inr ⟨i, ow, g1, rfl⟩
      · exact .inr ⟨i, o, by simpa [rhoSet, hi] using h, rfl⟩
  have hh : ∀ b, b < w.heap.size → ¬ owned M0 ρ b → ({ w with heap := w.heap.setIfInBounds ow.b (.map en' cl') } : World).heap[b]? = w.heap[b]? := fun b _ hno => hoth b fun he => hno (.inr ⟨id, ow, g1, he.symm⟩)
  obtain ⟨k1, k2⟩ := mrel_upd (id := id) (x := some ow) (blk' := mpB kf vf (mset m k v)) none hm hd (fun o ho => by cases ho; exact ⟨.inr ⟨ow, g1, rfl⟩, by simpa using hlt⟩) (.inr ⟨rfl, .inr g1⟩) (fun _ b _ _ => noref_none b) (.inl rfl)
    ⟨ow, en', cl', rhoSet_same _ _ _, (MapKept.heap_set (o' := .map en' cl') g3).1, hf.mono hh hM, hst⟩
  exact ⟨_, k1, k2, rfl⟩
end ops
end
end Go.Sim

namespace Go.Sim
section
variable {E : Env} {w0 : World} {M0 : Nat → Prop}
theorem get_lt {α : Type} {l : List α} {i : Nat} {x : α} (h : l[i]? = some x) : i < l.length := (List.getElem?_eq_some_iff.1 h).1
theorem copyL_len {α : Type} (d s : List α) : (copyL d s).length = d.length := by
  unfold copyL
  rw [List.length_append, List.length_take, List.length_drop]; omega
/-- a call whose result is not looked at -/
theorem res0 {fn : Func} {s : ASt} (hr : fn.results = #[]) : ResOk E fn s (.tup []) := resN hr (rvs := []) (xs := []) trivial (by simp)
end
end Go.Sim
namespace Go.Sim
/-- a length is a length, of a slice of the call's own or a lent one -/
theorem len_osl {E : Env} {w0 : World} {M0 : Nat → Prop} {c : Code} {Q : Exit → ASt → Prop} {s : ASt} (id : Nat) {α : Type} {k : Nat} {e : TypeId} {l : List α} {f : α → List G} (h : lookO s.mem id = some (.arr e k (l.map f))) (hk : l.length ≤ 9223372036854775807 → AWp E w0 M0 c Q s) : AWp E w0 M0 c Q s := by
  intro a w ha
  obtain ⟨ρ, hm, ht⟩ := ha.ex
  refine hk ?_ a w ha
  rcases hm.blk id _ h with ⟨_, h2⟩ | ⟨ow, vs, h1, h2, h3, h4, _⟩
  · rw [List.map_eq_nil_iff] at h2; rw [h2]; simp
  · rw [List.length_map] at h3; unfold maxLen at h4; omega
end Go.Sim
namespace Go.Sim
theorem condT1 {α : Type} {c : Bool} {a b r : α} (h : (bif c then a else b) = r) (h1 : (c == true) = true) : a = r := by cases c <;> simp_all
theorem condF1 {α : Type} {c : Bool} {a b r : α} (h : (bif !c then a else b) = r) (h1 : (c == false) = true) : a = r := by cases c <;> simp_all
end Go.Sim
namespace Go.Sim
end Go.Sim

namespace Go.Sim
section
variable {E : Env} {w0 : World} {M0 : Nat → Prop}

/-! ### new slices handed back: the caller's own from then on -/
/-- a slice in a block of number n or above -/
def G.new (n : Nat) (e : TypeId) (k : Nat) (xs : List (List G)) : G :=
  ⟨fun w M u => (u = .slice none 0 0 ∧ xs = []) ∨ ∃ ow : Own, ∃ vs : Array Value, ∃ p, u = .slice (some ⟨ow.b, p, none⟩) xs.length ow.cap ∧ (0 < ow.cap → p = ow.o) ∧ n ≤ ow.b ∧ ¬ M ow.b ∧ w.heap[ow.b]? = some (.cells vs e (0, 0)) ∧ xs.length ≤ ow.cap ∧ ow.cap ≤ maxLen ∧
      (ow.cap = 0 ∨ ow.o + ow.cap * k ≤ vs.size) ∧ (∀ c ∈ xs, c.length = k) ∧ Fits w (fun b => M b ∨ b = ow.b) xs.flatten ((vs.toList.drop ow.o).take (xs.length * k)), fun {w w' M M' u} h hh hM => by
    rcases h with h | ⟨ow, vs, p, h1, h1', h2, h3, h4, h5, h6, h7, h8, h9⟩
    · exact .inl h
    · have hlt : ow.b < w.heap.size := (Array.getElem?_eq_some_iff.1 h4).1
      exact .inr ⟨ow, vs, p, h1, h1', h2, fun h => h3 (hM _ hlt h), by rw [hh _ hlt h3]; exact h4, h5, h6, h7, h8, h9.mono (fun b hb hn => hh b hb fun h => hn (.inl h)) (fun b hb h => h.imp (hM b hb) id)⟩⟩

theorem new_sl {n : Nat} {e : TypeId} {k : Nat} {xs : List (List G)} (hk : 0 < k) {w : World} {M : Nat → Prop} {u : Value} (h : (G.new n e k xs).p w M u) : (G.sl k xs).p w M u := by
  rcases h with ⟨rfl, rfl⟩ | ⟨ow, vs, p, h1, h1', h2, h3, h4, h5, h6, h7, h8, h9⟩
  · exact ⟨none, 0, rfl, Nat.le_refl _, Nat.zero_le _, by simp, .inl ⟨rfl, fun _ => rfl⟩⟩
  · refine ⟨_, _, h1, h5, h6, h8, ?_⟩
    by_cases hc : ow.cap = 0
    · have : xs = [] := List.eq_nil_of_length_eq_zero (by omega)
      subst this
      exact .inl ⟨rfl, fun e => by cases e⟩
    · have hp := h1' (by omega)
      subst hp
      refine .inr ⟨ow.b, ow.o, rfl, h3, cells_of_fits h4 (h9.mono (fun _ _ _ => rfl) (fun _ _ h => .inl h)) ?_⟩
      intro j v hj
      rw [List.getElem?_take] at hj
      split at hj
      · rw [List.getElem?_drop] at hj; simpa using hj
      · cases hj

/-- THE CONTRACT OF A FUNCTION THAT HANDS BACK A NEW SLICE -/
def ConN (E : Env) (f : FuncId) (args : List G) (e : TypeId) (k : Nat) (xs : List (List G)) : Prop :=
  ∀ w M (vs : List Value), (∀ b, M b → b < w.heap.size) → GlOk E w M → FitsT w M args vs → Calls E.P f vs.toArray w fun e' w' => ∃ v, e' = .returned v ∧ Grow w w' ∧ (G.new w.heap.size e k xs).p w' M v
theorem ConN.con {f : FuncId} {args : List G} {e : TypeId} {k : Nat} {xs : List (List G)} (hk : 0 < k) (h : ConN E f args e k xs) : Con E f args (.sl k xs) :=
  fun w M vs h1 h2 h3 => (h w M vs h1 h2 h3).mono fun _ _ ⟨v, h4, h5, h6⟩ => ⟨v, h4, h5, new_sl hk h6⟩
theorem ConN.lend {f : FuncId} {args : List G} {e : TypeId} {k : Nat} {xs : List (List G)} {mem : Mem} {x : Nat → Option Own} (h : ConN E f args e k xs) : ConN (E.lend mem x) f args e k xs := h

/-- how such a body ends: its one result is a slice of its own -/
def DoneN (E : Env) (fn : Func) (e : TypeId) (k : Nat) (xs : List (List G)) : Exit → ASt → Prop
  | .ret, s | .normal, s => ∃ t, fn.results = #[.tmp t] ∧ ((s.get t = .g (.lit (.slice none 0 0)) ∧ xs = []) ∨ ∃ id N, s.get t = .osl id k 0 N ∧ lookO s.mem id = some (.arr e k xs) ∧ xs.length = N)
  | _, _ => False

theorem conN_of_aw {f : FuncId} {fn : Func} {c : Code} {args : List G} {e : TypeId} {k : Nat} {xs : List (List G)} (hf : E.P.funcs[f]? = some fn) (hb : fn.body = some c) (hn0 : Nat.ble args.length fn.ntmps = true)
    (h : ∀ w0 M0, AWp E w0 M0 c (DoneN E fn e k xs) ⟨fn.ntmps, initT args, []⟩) (hbw : E.bow = [] := by rfl) : ConN E f args e k xs := by
  intro w M vs hM hgl hv
  have hn := Nat.le_of_ble_eq_true hn0
  have hlen := hv.length
  refine calls_of_wp hf hb ?_
  have ha : ARel E w M ⟨fn.ntmps, initT args, []⟩ { tmps := vs.toArray ++ Array.replicate (fn.ntmps - vs.toArray.size) undef, defers := [] } w := by
    refine ⟨rfl, ?_, fun _ => none, ?_, ?_⟩
    · simp; omega
    · refine ⟨BelowX.refl _ w, hM, ?_, ?_, ?_, ?_, (fun id x h => by rw [hbw] at h; cases h), (fun b h => absurd h (lent_nil hbw)), ?_⟩
      · intro g vs hg
        have := hgl g vs hg
        have hiff : ∀ b, owned M (fun _ => none) b → M b := by rintro b (h | ⟨_, _, h, _⟩); exact h; cases h
        exact ⟨⟨fun h => this.1.1 (hiff _ h), this.1.2⟩, this.2.mono (fun _ _ _ => rfl) (fun b _ h => hiff b h) this.1.1⟩
      · intro _ _ h; cases h
      · intro _ _ h; cases h
      · intro _ _ _ _ h; cases h
      · intro _ _ h; cases h
    · intro i
      have hv' : FitsT w (owned M (fun _ => none)) args vs := hv.mono (fun _ _ _ => rfl) (by rintro b _ (h | ⟨_, _, h, _⟩); exact h; cases h)
      have := initT_rel (ρ := fun _ => none) (fn.ntmps - vs.length) hv' i
      show TRel _ _ _ (initT args i) _
      rw [Array.getD_eq_getD_getElem?]
      rw [show (vs.toArray ++ Array.replicate (fn.ntmps - vs.toArray.size) undef) = (vs ++ List.replicate (fn.ntmps - vs.length) undef).toArray by simp]
      rw [List.getElem?_toArray]
      exact this
  refine wp_mono (h w M _ w ha) ?_
  rintro ex a' w' ⟨s', ha', hq⟩
  have fin : (∃ t, fn.results = #[.tmp t] ∧ ((s'.get t = .g (.lit (.slice none 0 0)) ∧ xs = []) ∨ ∃ id N, s'.get t = .osl id k 0 N ∧ lookO s'.mem id = some (.arr e k xs) ∧ xs.length = N)) →
      a'.defers = [] ∧ ∃ v, (results fn a'.tmps).run E.P w' = .ok v w' ∧ (∃ u, Ending.returned v = .returned u ∧ Grow w w' ∧ (G.new w.heap.size e k xs).p w' M u) := by
    rintro ⟨t, hr, hq⟩
    obtain ⟨ρ, hm, ht⟩ := ha'.ex
    have hres : (results fn a'.tmps).run E.P w' = .ok (a'.tmps.getD t undef) w' := by
      rw [results_eq, hr]
      simp [rvSem]
    refine ⟨ha'.defers, _, hres, _, rfl, hm.below.grow (fun _ => lent_nil hbw), ?_⟩
    have h1 := ht t
    rcases hq with ⟨h2, rfl⟩ | ⟨id, N, h2, h3, rfl⟩
    · rw [h2] at h1
      exact .inl ⟨h1, rfl⟩
    · rw [h2] at h1
      rcases h1 with ⟨g1, _, g2, g3⟩ | ⟨ow, g1, _, g2, p, g3, g4⟩
      · exact .inl ⟨by rw [g3], List.eq_nil_of_length_eq_zero g2⟩
      · rcases hm.blk id _ h3 with ⟨k1, k2⟩ | ⟨ow', vs', k1, k2, k3, k4, k5, k6, k7⟩
        · rw [g1] at k1; cases k1
        · have : ow' = ow := by rw [g1] at k1; simpa using k1.symm
          subst this
          have hno : ¬ M ow'.b := fun h => not_lent hm g1 (by rw [hbw]; rfl) (.inl h)
          have hnl : w.heap.size ≤ ow'.b := by
            rcases (hm.fresh id ow' g1).1 with h | h
            · exact h
            · exact absurd h (lent_nil hbw)
          exact .inr ⟨ow', vs', p, by simpa using g3, fun h => by simpa using g4 h, hnl, hno, k2, k3, k4, k5, k6, k7.mono (fun _ _ _ => rfl) (fun b _ hb => hb.elim .inl fun h => .inr ⟨id, ow', g1, h.symm⟩)⟩
  cases ex with
  | ret => exact fin hq
  | normal => exact fin hq
  | _ => exact hq.elim

/-- the elements lie nowhere in memory -/
def PureL (l : List G) : Prop := ∀ g ∈ l, ∀ w M v w' M', g.p w M v → g.p w' M' v
theorem Fits.pure {w w' : World} {M M' : Nat → Prop} : ∀ {l : List G} {vs : List Value}, PureL l → Fits w M l vs → Fits w' M' l vs
  | [], [], _, _ => trivial
  | g :: l, v :: vs, hp, h => ⟨⟨hp g List.mem_cons_self _ _ _ _ _ h.1.1, h.1.2⟩, Fits.pure (fun g hg => hp g (List.mem_cons_of_mem _ hg)) h.2⟩
  | [], _ :: _, _, h => h.elim
  | _ :: _, [], _, h => h.elim
/-! ### a block that is written no more -/
/-- what a slot that names it comes to -/
def FrzTo (id : Nat) (blk : Blk) (a b : TV) : Prop :=
  (∃ k xs e N, blk = .arr e k xs ∧ xs.length = N ∧ a = .osl id k 0 N ∧ b = .g (.sl k xs) ∧ 0 < k) ∨ (∃ cs gs off, blk = .box cs ∧ ungs cs = some gs ∧ gs ≠ [] ∧ a = .ptr id off ∧ b = .g (.ref (gs.drop off))) ∨ (∃ es, blk = .mp es ∧ a = .omap id ∧ b = .g (.mpf es))
theorem frz_arr {id k N : Nat} {e : TypeId} {α : Type} {f : α → List G} {l : List α} (hN : l.length = N) : FrzTo id (.arr e (k + 1) (l.map f)) (.osl id (k + 1) 0 N) (.g (.sl (k + 1) (l.map f))) := .inl ⟨k + 1, _, e, N, rfl, by simpa using hN, rfl, rfl, Nat.succ_pos k⟩
def FrzL (s : ASt) (id : Nat) (blk : Blk) : List (Nat × TV) → Prop
  | [] => True
  | (i, v) :: r => ((s.get i = v ∧ noref (some id) v = true) ∨ FrzTo id blk (s.get i) v) ∧ FrzL s id blk r

theorem frzL_get {s : ASt} {id : Nat} {blk : Blk} : ∀ {l : List (Nat × TV)}, FrzL s id blk l → ∀ i, lookT l i = .any ∨ (∃ v, (i, v) ∈ l ∧ lookT l i = v) ∧ ((s.get i = lookT l i ∧ noref (some id) (lookT l i) = true) ∨ FrzTo id blk (s.get i) (lookT l i))
  | [], _, _ => .inl rfl
  | (k, v) :: r, h, i => by
    simp only [lookT]
    rcases Bool.eq_false_or_eq_true (Nat.beq k i) with hk | hk
    · rw [hk]
      have hki := Nat.eq_of_beq_eq_true hk
      subst hki
      exact .inr ⟨⟨v, List.mem_cons_self, rfl⟩, h.1⟩
    · rw [hk]
      rcases frzL_get h.2 i with h1 | ⟨⟨u, h2, h3⟩, h4⟩
      · exact .inl h1
      · exact .inr ⟨⟨u, List.mem_cons_of_mem _ h2, h3⟩, h4⟩

/-- one block of the call's own is only read from here on: its names become forms -/
theorem aw_freeze {c : Code} {Q : Exit → ASt → Prop} {s : ASt} (id : Nat) {blk : Blk} {l : List (Nat × TV)} {m : Mem} (hb : lookO s.mem id = some blk) (h1 : FrzL s id blk l) (h2 : MemL s m) (h3 : closedB l m = true) (hid : lookO m id = none)
    (h : AWp E w0 M0 c Q (stt s.n l m)) (hbw : bowIn E m = true := by rfl) : AWp E w0 M0 c Q s := by
  intro a w ha
  refine h a w ?_
  obtain ⟨ρ, hm, ht⟩ := ha.ex
  let ρ' : Rho := fun id => if (lookO m id).isSome = true then ρ id else none
  have hρ : ∀ id, (lookO m id).isSome = true → ρ' id = ρ id := fun id hi => by simp only [ρ', if_pos hi]
  have hρ' : ∀ id x, ρ' id = some x → ρ id = some x ∧ (lookO m id).isSome = true := by
    intro id x hx
    simp only [ρ'] at hx
    split at hx
    · rename_i hi; exact ⟨hx, hi⟩
    · cases hx
  have hM : ∀ b, owned M0 ρ' b → owned M0 ρ b := by
    rintro b (hb | ⟨id, o, ho, rfl⟩)
    · exact .inl hb
    · exact .inr ⟨id, o, (hρ' id _ ho).1, rfl⟩
  have hlent : lookO E.bow id = none := by
    cases hq : lookO E.bow id with
    | none => rfl
    | some x =>
      have := List.all_eq_true.1 hbw (id, x) (lookO_mem _ hq)
      simp only [hid] at this
      cases this
  have hno : ∀ ow, ρ id = some (some ow) → ¬ owned M0 ρ' ow.b := by
    rintro ow ho (hM0 | ⟨i, o, hi, he⟩)
    · exact not_lent hm ho hlent (.inl hM0)
    · have := hm.inj i id o ow (hρ' i _ hi).1 ho he
      subst this
      have := (hρ' i _ hi).2
      rw [hid] at this; cases this
  simp only [closedB, Bool.and_eq_true, List.all_eq_true] at h3
  refine ⟨ha.defers, ha.size, ρ', ⟨hm.below, hm.m0, ?_, ?_, ?_, ?_, ?_, hm.lentM, ?_⟩, ?_⟩
  · intro g vs hg
    have := hm.glob g vs hg
    exact ⟨⟨fun hb => this.1.1 (hM _ hb), this.1.2⟩, this.2.mono (fun _ _ _ => rfl) (fun b _ => hM b) this.1.1⟩
  · intro id x hx
    have := (hρ' id x hx).2
    cases hl : lookO m id with
    | none => rw [hl] at this; cases this
    | some b => exact ⟨b, hl⟩
  · exact fun id ow ho => hm.fresh id ow (hρ' id _ ho).1
  · exact fun id id' ow ow' ho ho' => hm.inj id id' ow ow' (hρ' id _ ho).1 (hρ' id' _ ho').1
  · intro id x hx
    rw [hρ id (List.all_eq_true.1 hbw (id, x) (lookO_mem _ hx))]
    exact hm.keep id x hx
  · intro i blk' hb0
    have hb0 : lookO m i = some blk' := hb0
    have hi : (lookO m i).isSome = true := by rw [hb0]; rfl
    have := hm.blk i blk' (memL_look h2 i blk' hb0)
    cases blk' with
    | box cs =>
      obtain ⟨ow, e, vs, g1, g2, g3, g4⟩ := this
      have hcl := h3.2 (i, .box cs) (lookO_mem _ hb0)
      exact ⟨ow, e, vs, by rw [hρ i hi]; exact g1, g2, g3, g4.sub hM hρ (by simpa [blkIn] using hcl)⟩
    | arr e k xs =>
      rcases this with ⟨g1, g2⟩ | ⟨ow, vs, g1, g2, g3, g4, g5, g6, g7⟩
      · exact .inl ⟨by rw [hρ i hi]; exact g1, g2⟩
      · exact .inr ⟨ow, vs, by rw [hρ i hi]; exact g1, g2, g3, g4, g5, g6, g7.mono (fun _ _ _ => rfl) (fun b _ => hM b)⟩
    | mp es =>
      obtain ⟨ow, en, cl, g1, g2, g3, g4⟩ := this
      exact ⟨ow, en, cl, by rw [hρ i hi]; exact g1, g2, g3.mono (fun _ _ _ => rfl) (fun b _ => hM b), g4⟩
    | it s pos =>
      obtain ⟨ow, g1, g2, g3⟩ := this
      exact ⟨ow, by rw [hρ i hi]; exact g1, g2, g3⟩
    | mit es seen =>
      obtain ⟨ow, g1, g2, g3⟩ := this
      exact ⟨ow, by rw [hρ i hi]; exact g1, g2, g3.mono rfl (fun _ _ _ => rfl) (fun b _ => hM b)⟩
    | gone => trivial
  · intro i
    show TRel _ _ _ (lookT l i) _
    rcases frzL_get h1 i with h4 | ⟨⟨v, h5, h6⟩, h7⟩
    · rw [h4]; trivial
    · rcases h7 with ⟨h8, h9⟩ | h8
      · have := ht i
        rw [h8] at this
        exact this.sub (m := m) (by rw [h6]; exact h3.1 (i, v) h5) hM hρ
      · have hv := ht i
        rcases h8 with ⟨k, xs, e, N, rfl, hN, ha1, hb1, hk⟩ | ⟨cs, gs, off, rfl, hu, hne, ha1, hb1⟩ | ⟨es, rfl, ha1, hb1⟩
        · rw [ha1] at hv
          rw [hb1]
          subst hN
          have hview := osl_view hm hb hv (Nat.zero_le _) (Nat.le_refl _)
          obtain ⟨a', cap, e1, g1, g2, g3, g4, g5, g6⟩ := hview
          simp only [Nat.sub_zero, List.drop_zero, List.take_length] at e1 g1 g4 g5 g6
          refine ⟨a', cap, e1, g1, g2, g5, ?_⟩
          rcases g6 with g6 | ⟨b, o, cur, news, rfl, ⟨ow, k0, rfl⟩, k1, k2, k3⟩
          · have : xs = [] := List.eq_nil_of_length_eq_zero g6
            subst this
            exact .inl ⟨rfl, fun ha => (g3 ha).1⟩
          · exact .inr ⟨ow.b, o, rfl, hno ow k0, cells_of_fits k1 (k2.mono (fun _ _ _ => rfl) (fun b _ => hM b)) k3⟩
        · rw [ha1] at hv
          rw [hb1]
          obtain ⟨ow, g1, g2⟩ := hv
          obtain ⟨ow', e, vs, g3, g4, g5, g6⟩ := hm.blk id _ hb
          have : ow' = ow := by rw [g1] at g3; simpa using g3.symm
          subst this
          refine ⟨ow'.b, ow'.o + off, g2, .inr (hno ow' g1), ?_⟩
          have g7 := g6
          rw [ungs_eq hu] at g7
          have g8 := (fits_of_tfits g7).mono (w' := w) (M' := owned M0 ρ') (fun _ _ _ => rfl) (fun b _ => hM b)
          have hcells : Cells w (owned M0 ρ') ow'.b 0 gs := cells_of_fits g5 g8 (fun j v hj => by simpa using hj)
          rw [g4]
          exact hcells.drop off
        · rw [ha1] at hv
          rw [hb1]
          obtain ⟨ow, g1, g2⟩ := hv
          obtain ⟨ow', en, cl, g3, g4, g5, g6⟩ := hm.blk id _ hb
          have : ow' = ow := by rw [g1] at g3; simpa using g3.symm
          subst this
          exact ⟨ow'.b, en, cl, g2, hno ow' g1, g4, g5.mono (fun _ _ _ => rfl) (fun b _ => hM b), g6⟩
theorem doneN_own {fn : Func} {e : TypeId} {k : Nat} {xs : List (List G)} {s : ASt} {t id N : Nat} (hr : fn.results = #[.tmp t]) (h : s.get t = .osl id k 0 N) (hb : lookO s.mem id = some (.arr e k xs)) (hN : xs.length = N) : DoneN E fn e k xs .ret s := ⟨t, hr, .inr ⟨id, N, h, hb, hN⟩⟩
end
end Go.Sim
namespace Go.Sim
theorem eff_lenON {E : Env} {o : Oper} {ev : Operand → TV} {t el : TypeId} {x : Operand} {id k N : Nat} {α : Type} {l : List α} (hN : l.length = N) (ho : o.op = .call ⟨.builtin .len, #[x], #[t]⟩) (ht : E.P.underlying t = some (.slice el)) (hx : ev x = .osl id k 0 N) (mem : Mem) : Eff E o mem ev (.g (.int (l.length : Int))) := by
  rw [hN]; exact eff_lenO ho ht hx mem
end Go.Sim

namespace Go.Sim
section
variable {E : Env} {w0 : World} {M0 : Nat → Prop}

/-- a part of a slice of the call's own -/
theorem eff_slO {o : Oper} {ev : Operand → TV} {t el : TypeId} {x : Operand} {lo hi : Option Operand} {id k N a c : Nat} {b : Bool} (ho : o.op = .slice t x lo hi none) (ht : E.P.underlying t = some (.slice el)) (hk : tyK E.P el = some (k, b)) (hx : ev x = .osl id k 0 N)
    (hlo : BndV ev lo a 0) (hhi : BndV ev hi c N) (hac : a ≤ c) (hcl : c ≤ N) (mem : Mem) : Eff E o mem ev (.osl id k a c) :=
  eff_same (fun w M ρ e' he => by
    have h1 := he x (by rw [ho]; simp [Op.operands])
    rw [hx] at h1
    rcases h1 with ⟨g1, _, hN, g3⟩ | ⟨ow, g1, _, g2, p, g3, g4⟩
    · subst hN
      have hc0 : c = 0 := by omega
      have ha0 : a = 0 := by omega
      subst hc0; subst ha0
      have hb := run_slBounds (P := E.P) (isS := true) (w := w) (e' := e') (ρ := ρ) (M := M) hlo hhi hac hcl (Nat.le_refl 0) (fun y hy => he y (by
        rw [ho]
        rcases hy with rfl | rfl <;> simp [Op.operands]))
      refine ⟨.slice none 0 0, ?_, .inl ⟨g1, rfl, rfl, rfl⟩⟩
      simp only [execOp, ho, g3, Instr.sliceAt, Instr.slice, Sem.run_bind, Sem.run_map, run_underlying ht, Result.andThen_ok, Option.map_none, hb, run_sizeOf hk, Sem.run_pure]
      rfl
    · rw [Nat.sub_zero] at g3
      have hb := run_slBounds (P := E.P) (isS := true) (w := w) (e' := e') (ρ := ρ) (M := M) hlo hhi hac hcl (show N ≤ ow.cap - 0 by omega) (fun y hy => he y (by
        rw [ho]
        rcases hy with rfl | rfl <;> simp [Op.operands]))
      rw [Nat.sub_zero] at hb
      refine ⟨.slice (if ow.cap = a then some ⟨ow.b, p, none⟩ else some ⟨ow.b, p + a * k, none⟩) (c - a) (ow.cap - a), ?_, .inr ⟨ow, g1, hac, by omega, if ow.cap = a then p else p + a * k, ?_, fun h => ?_⟩⟩
      · simp only [execOp, ho, g3, Nat.sub_zero, Instr.sliceAt, Instr.slice, Sem.run_bind, Sem.run_map, run_underlying ht, Result.andThen_ok, Option.map_none, hb, run_sizeOf hk, Sem.run_pure, Option.map_some, Addr.add_lit]
      · by_cases hca : ow.cap = a <;> simp [hca]
      · rw [if_neg (by omega), g4 (by omega), Nat.zero_mul, Nat.add_zero]) mem

end
end Go.Sim
namespace Go.Sim
end Go.Sim
namespace Go.Sim
end Go.Sim

namespace Go.Sim
section
variable {E : Env}
end
end Go.Sim
namespace Go.Sim
section
variable {E : Env} {w0 : World} {M0 : Nat → Prop} {ops : Array Oper} {md : Region.Mode} {cl : Nat → Cls}
end
end Go.Sim
namespace Go.Sim
end Go.Sim

namespace Go.Sim
/-! ## names of blocks anew, where a code ends -/
section
variable {E : Env} {w0 : World} {M0 : Nat → Prop}
end
end Go.Sim

namespace Go.Sim
/-! ## arrays of the call's own, and parts of array values, at fixed places -/
section
variable {E : Env}
end
end Go.Sim

namespace Go.Sim
/-! ## a slice cut to its length; a part of a string -/
section
variable {E : Env} {o : Oper} {ev : Operand → TV}
def ascope (Q : Exit → ASt → Prop) : Exit → ASt → Prop
  | .goto _, _ => False
  | e, s => Q e s
theorem aw_scope {w0 : World} {M0 : Nat → Prop} {c : Code} {Q : Exit → ASt → Prop} {s : ASt} (h : AWp E w0 M0 c (ascope Q) s) : AWp E w0 M0 (.scope c) Q s :=
  fun a w ha => wp_scope_straight (wp_mono (h a w ha) fun e a' w' ⟨s', h1, h2⟩ => by
    cases e <;> first | exact h2.elim | exact ⟨s', h1, h2⟩)
end
end Go.Sim

namespace Go.Sim
/-! ## a reading of one block, and a block that is made, in a drawn region -/
section
variable {E : Env} {ops : Array Oper} {o : Oper} {os : List Oper} {cs : List Cls} {s : ASt} {r : TV} {K : ASt → Prop}
theorem st_rq {d i : Nat} {b : Blk} (hd : o.dst = some d) (hg : o.guard = none) (hb : lookO s.mem i = some b) (he : ∀ m, lookO m i = some b → Eff E o m (s.eval E) r) (hn : Nat.blt d s.n = true) (hk : AOps E ops os cs (s.put (some d) r) K) : AOps E ops (o :: os) (.rq i :: cs) s K :=
  ⟨s.put (some d) r, ⟨fun d' h => by rw [hd] at h; cases h; exact Nat.le_of_ble_eq_true hn, true, r, s.mem, none, by unfold Wanted; rw [hg], fun _ => ⟨rfl, rfl, b, hb, he⟩, (by intro h; cases h), by rw [hd]; rfl⟩, hk⟩
end
end Go.Sim

namespace Go.Sim
/-! ## a range over a map that is written no more -/
section
variable {E : Env} {w0 : World} {M0 : Nat → Prop}

theorem MFits.get {w : World} {M : Nat → Prop} : ∀ {es : List (Value × G)} {l : List MapEntry} {j : Nat} {e : MapEntry}, MFits w M es l → l[j]? = some e → ∃ k g, es[j]? = some (k, g) ∧ e.key = k ∧ g.p w M e.val
  | [], [], _, _, _, h => by simp at h
  | (k, g) :: _, e' :: _, 0, e, h, he => by
    simp at he; subst he
    exact ⟨k, g, rfl, h.1.1, h.1.2⟩
  | _ :: _, _ :: _, j + 1, e, h, he => by
    obtain ⟨k, g, h1, h2⟩ := MFits.get h.2 (by simpa using he)
    exact ⟨k, g, by simpa using h1, h2⟩
  | [], _ :: _, _, _, h, _ => h.elim
  | _ :: _, [], _, _, h, _ => h.elim
theorem MFits.length {w : World} {M : Nat → Prop} : ∀ {es : List (Value × G)} {l : List MapEntry}, MFits w M es l → l.length = es.length
  | [], [], _ => rfl
  | (_, _) :: _, _ :: _, h => by simp [MFits.length h.2]
  | [], _ :: _, h => h.elim
  | _ :: _, [], h => h.elim

end

/-! ### the order of a range: what has come, as places and as entries -/
section
variable {α : Type}
def MOrd (m : List α) (sn : List Nat) (l : List α) : Prop := sn.Nodup ∧ l.map some = sn.reverse.map (fun j => m[j]?)
theorem MOrd.lt {m : List α} {sn : List Nat} {l : List α} (h : MOrd m sn l) {j : Nat} (hj : j ∈ sn) : j < m.length := by
  have h1 : m[j]? ∈ sn.reverse.map (fun j => m[j]?) := List.mem_map.2 ⟨j, List.mem_reverse.2 hj, rfl⟩
  rw [← h.2] at h1
  obtain ⟨x, _, hx⟩ := List.mem_map.1 h1
  exact (List.getElem?_eq_some_iff.1 hx.symm).1
theorem nodup_sub_len {α : Type} [DecidableEq α] : ∀ {a b : List α}, a.Nodup → (∀ x ∈ a, x ∈ b) → a.length ≤ b.length
  | [], _, _, _ => Nat.zero_le _
  | x :: a, b, hn, hs => by
    obtain ⟨h1, h2⟩ := List.nodup_cons.1 hn
    have hx := hs x List.mem_cons_self
    have := nodup_sub_len (b := b.erase x) h2 fun y hy => (List.mem_erase_of_ne (fun e => h1 (by rw [← e]; exact hy))).2 (hs y (List.mem_cons_of_mem _ hy))
    rw [List.length_erase_of_mem hx] at this
    have : 0 < b.length := List.length_pos_of_mem hx
    simp; omega
theorem MOrd.len {m : List α} {sn : List Nat} {l : List α} (h : MOrd m sn l) : l.length ≤ m.length := by
  have h1 : l.length = sn.length := by have := congrArg List.length h.2; simpa using this
  have := nodup_sub_len h.1 (b := List.range m.length) fun x hx => List.mem_range.2 (h.lt hx)
  simp at this
  omega
end
end Go.Sim

namespace Go.Sim
/-! ## the tail of a slice of the call's own, taken in its place -/
section
variable {E : Env} {w0 : World} {M0 : Nat → Prop}
theorem rebase {ρ : Rho} {mem : Mem} {w : World} {id k N : Nat} {e : TypeId} {xs : List (List G)} {v : Value} (hm : MRel E w0 M0 ρ mem w) (hb : lookO mem id = some (.arr e k xs)) (hN : xs.length = N) (h1 : 1 ≤ N) (hbw : lookO E.bow id = none)
    (hrefs : ∀ i blk, lookO mem i = some blk → i ≠ id → blk.noref (some id) = true) (hv : TRel w (owned M0 ρ) ρ (.osl id k 1 N) v) :
    ∃ ρ', MRel E w0 M0 ρ' ((id, .arr e k (xs.drop 1)) :: mem) w ∧ Kept M0 (some id) ρ w ρ' w ∧ TRel w (owned M0 ρ') ρ' (.osl id k 0 (N - 1)) v := by
  rcases hv with ⟨_, h0, _⟩ | ⟨ow, g1, g2, g3, p, g4, g5⟩
  · cases h0
  rcases hm.blk id _ hb with ⟨e1, _⟩ | ⟨ow', vs, q1, q2, q3, q4, q5, q6, q7⟩
  · rw [g1] at e1; cases e1
  have hoo : ow' = ow := by rw [g1] at q1; simpa using q1.symm
  subst hoo
  have hsz : ow'.o + k + (ow'.cap - 1) * k ≤ vs.size := by
    rcases q5 with h | h
    · omega
    · obtain ⟨d, hd⟩ : ∃ d, ow'.cap = d + 1 := ⟨ow'.cap - 1, by omega⟩
      rw [hd, Nat.succ_mul] at h
      rw [hd, Nat.add_sub_cancel]
      omega
  have hM : ∀ b, owned M0 (rhoSet ρ id (some ⟨ow'.b, ow'.o + k, ow'.cap - 1⟩)) b → owned M0 ρ b := by
    rintro b (h | ⟨i, o, h, rfl⟩)
    · exact .inl h
    · by_cases hi : i = id
      · subst hi; rw [rhoSet_same] at h; cases h; exact .inr ⟨i, ow', g1, rfl⟩
      · exact .inr ⟨i, o, by simpa [rhoSet, hi] using h, rfl⟩
  have hfit : Fits w (owned M0 ρ) (xs.drop 1).flatten ((vs.toList.drop (ow'.o + k)).take ((xs.drop 1).length * k)) := by
    cases xs with
    | nil => simp at hN; omega
    | cons x t =>
      have hx : x.length = k := q6 x List.mem_cons_self
      have := Fits.drop k q7
      rw [List.flatten_cons, List.drop_left' hx] at this
      rw [List.drop_take, List.drop_drop] at this
      simp only [List.drop_succ_cons, List.drop_zero]
      have e : (x :: t).length * k - k = t.length * k := by rw [List.length_cons, Nat.succ_mul]; omega
      rw [e] at this
      exact this
  obtain ⟨m1, m2⟩ := mrel_upd (id := id) (x := some ⟨ow'.b, ow'.o + k, ow'.cap - 1⟩) (blk' := .arr e k (xs.drop 1)) (some id) hm ⟨rfl, rfl, rfl, Nat.le_refl _, fun _ _ _ => rfl⟩ (fun o ho => by cases ho; exact ⟨.inr ⟨ow', g1, rfl⟩, (hm.fresh id ow' g1).2⟩) (.inl rfl) hrefs (.inr hbw)
    (.inr ⟨⟨ow'.b, ow'.o + k, ow'.cap - 1⟩, vs, rhoSet_same _ _ _, q2, by rw [List.length_drop]; show xs.length - 1 ≤ ow'.cap - 1; omega, by show ow'.cap - 1 ≤ maxLen; omega, .inr hsz, fun c hc => q6 c (List.mem_of_mem_drop hc), hfit.mono (fun _ _ _ => rfl) (fun b _ => hM b)⟩)
  refine ⟨_, m1, m2, .inr ⟨_, rhoSet_same _ _ _, Nat.zero_le _, by show N - 1 ≤ ow'.cap - 1; omega, p, ?_, fun h => ?_⟩⟩
  · rw [g4]; simp
  · have h : 0 < ow'.cap - 1 := h
    rw [g5 (by omega)]
    show ow'.o + 1 * k = ow'.o + k + 0 * k
    omega
theorem eff_tail {α : Type} {f : α → List G} {l : List α} {o : Oper} {mem : Mem} {ev : Operand → TV} {t el e : TypeId} {x lo : Operand} {id k N : Nat} {b : Bool} {ka : IntKind} (ho : o.op = .slice t x (some lo) none none) (ht : E.P.underlying t = some (.slice el)) (hk : tyK E.P el = some (k, b)) (hx : ev x = .osl id k 0 N)
    (hlo : ev lo = .g (.lit (.int ka 1))) (hb : lookO mem id = some (.arr e k (l.map f))) (hN : l.length = N) (h1 : 1 ≤ N) (hrefs : ∀ i blk, lookO mem i = some blk → i ≠ id → blk.noref (some id) = true) (hbw : lookO E.bow id = none := by rfl) :
    EffW E o mem ev (.osl id k 0 (List.drop 1 l).length) ((id, .arr e k ((List.drop 1 l).map f)) :: mem) (some id) := by
  rw [show (List.drop 1 l).length = N - 1 by rw [List.length_drop, hN]]
  intro w0 M0 ρ w e' hm he
  have h := eff_slO (a := 1) (c := N) ho ht hk hx (bnd_some hlo (by decide)) bnd_none h1 (Nat.le_refl _) mem w0 M0 ρ w e' hm he
  have key : ∀ w' v, Grow w w' → TRel w' (owned M0 ρ) ρ (.osl id k 1 N) v → ∃ ρ', MRel E w0 M0 ρ' ((id, .arr e k ((l.drop 1).map f)) :: mem) w' ∧ Kept M0 (some id) ρ w ρ' w' ∧ TRel w' (owned M0 ρ') ρ' (.osl id k 0 (N - 1)) v := by
    intro w' v hg hv
    obtain ⟨ρ', g1, g2, g3⟩ := rebase (hm.grow hg) hb (by rw [List.length_map]; exact hN) h1 hbw hrefs hv
    exact ⟨ρ', by rw [List.map_drop]; exact g1, fun tv u hn hu => g2 tv u hn (hu.grow hg), g3⟩
  generalize (execOp e' o).run E.P w = res at *
  cases res with
  | ok n w' =>
    cases n <;> simp only [Upon0, UponW] at h ⊢
    · exact key _ _ h.1 h.2
    · exact key _ _ h.1 h.2
    · refine h.mono ?_
      rintro e'' w'' ⟨v, rfl, g1, g2⟩
      exact ⟨v, rfl, key _ _ g1 g2⟩
  | halt => exact h.elim
end
end Go.Sim

namespace Go.Sim
/-! ## own slices in the cells of a box -/
section
variable {E : Env} {w0 : World} {M0 : Nat → Prop}
theorem TFits.forget {w : World} {M : Nat → Prop} {ρ : Rho} : ∀ {cs : List TV} {vs : List Value} (p : Nat), TFits w M ρ cs vs → TFits w M ρ (cs.set p .any) vs
  | [], [], _, _ => trivial
  | _ :: _, _ :: _, 0, h => ⟨⟨trivial, h.1.2⟩, h.2⟩
  | _ :: _, _ :: _, p + 1, h => ⟨h.1, TFits.forget p h.2⟩
  | [], _ :: _, _, h => h.elim
  | _ :: _, [], _, h => h.elim
theorem TFits.give {w : World} {M : Nat → Prop} {ρ : Rho} {tv : TV} {v : Value} (ht : TRel w M ρ tv v) : ∀ {cs : List TV} {vs : List Value} (p : Nat), TFits w M ρ cs vs → vs[p]? = some v → TFits w M ρ (cs.set p tv) vs
  | [], [], _, _, _ => trivial
  | _ :: _, u :: _, 0, h, hv => by simp at hv; subst hv; exact ⟨⟨ht, h.1.2⟩, h.2⟩
  | _ :: _, _ :: _, p + 1, h, hv => ⟨h.1, TFits.give ht p h.2 (by simpa using hv)⟩
  | [], _ :: _, _, h, _ => h.elim
  | _ :: _, [], _, h, _ => h.elim
theorem rho_same {ρ : Rho} {id : Nat} {ow : Own} (h : ρ id = some (some ow)) : rhoSet ρ id (some ow) = ρ := by
  funext i
  by_cases hi : i = id
  · subst hi; rw [rhoSet_same]; exact h.symm
  · simp [rhoSet, hi]
/-- a variable is read, and its name for what it holds is given up -/
theorem eff_take {o : Oper} {mem : Mem} {ev : Operand → TV} {t : TypeId} {x : Operand} {k id p : Nat} {cs : List TV} {tv : TV} (ho : o.op = .load t x) (ht : tyK E.P t = some (k, false)) (hx : ev x = .ptr id p) (hb : lookO mem id = some (.box cs)) (hc : cs[p]? = some tv) :
    EffW E o mem ev tv ((id, .box (cs.set p .any)) :: mem) none := by
  intro w0 M0 ρ w e hm he
  have h1 := he x (by rw [ho]; simp [Op.operands])
  rw [hx] at h1
  obtain ⟨ow, h2, h3⟩ := h1
  obtain ⟨ow', ty, vs, g1, g2, g3, g4⟩ := hm.blk id _ hb
  have : ow' = ow := by rw [h2] at g1; simpa using g1.symm
  subst this
  obtain ⟨v, h4, h5, _⟩ := TFits.get p g4 hc
  have hcell : w.cell? ⟨ow'.b, ow'.o + p, none⟩ = some v := by rw [cell_of_row w _ _ _ _ _ g3, g2]; simpa using h4
  have : (execOp e o).run E.P w = .ok (.value v) w := by simp [execOp, ho, h3, Instr.loadAt, Instr.sureAddr, run_loadVar_one ht hcell]
  rw [this]
  obtain ⟨m1, m2⟩ := mrel_upd (id := id) (x := some ow') (blk' := .box (cs.set p .any)) none hm ⟨rfl, rfl, rfl, Nat.le_refl _, fun _ _ _ => rfl⟩ (fun o ho => by cases ho; exact ⟨.inr ⟨ow', h2, rfl⟩, (hm.fresh id ow' h2).2⟩) (.inr ⟨rfl, .inr h2⟩) (fun _ b _ _ => noref_none b) (.inl rfl)
    ⟨ow', ty, vs, rhoSet_same _ _ _, g2, g3, by rw [rho_same h2]; exact TFits.forget p g4⟩
  exact ⟨_, m1, m2, m2 tv v (by cases tv <;> rfl) h5⟩
/-- a variable that holds no slice yet: the call's own, of no elements -/
theorem arel_nilcell {a : Act} {w : World} {s : ASt} {b p id k : Nat} {e : TypeId} {cs : List TV} (ha : ARel E w0 M0 s a w) (hb : lookO s.mem b = some (.box cs)) (hc : cs[p]? = some (.g (.lit (.slice none 0 0)))) (hf : lookO s.mem id = none) (hne : Nat.beq id b = false) :
    ARel E w0 M0 ⟨s.n, s.tmps, (b, .box (cs.set p (.osl id k 0 0))) :: (id, .arr e k []) :: s.mem⟩ a w := by
  obtain ⟨ρ, hm, ht⟩ := ha.ex
  have hr := rho_none hm hf
  obtain ⟨m1, m2⟩ := mrel_upd (id := id) (x := none) (blk' := .arr e k []) none hm ⟨rfl, rfl, rfl, Nat.le_refl _, fun _ _ _ => rfl⟩ (fun o ho => by cases ho) (.inr ⟨rfl, .inl hr⟩) (fun _ b _ _ => noref_none b) (.inl rfl) (.inl ⟨rhoSet_same _ _ _, rfl⟩)
  have hb' : lookO ((id, Blk.arr e k []) :: s.mem) b = some (.box cs) := by simp only [lookO, hne]; exact hb
  obtain ⟨ow, ty, vs, g1, g2, g3, g4⟩ := m1.blk b _ hb'
  obtain ⟨v, h4, h5, _⟩ := TFits.get p g4 hc
  have hv : v = .slice none 0 0 := h5
  subst hv
  obtain ⟨n1, n2⟩ := mrel_upd (id := b) (x := some ow) (blk' := .box (cs.set p (.osl id k 0 0))) none m1 ⟨rfl, rfl, rfl, Nat.le_refl _, fun _ _ _ => rfl⟩ (fun o ho => by cases ho; exact ⟨.inr ⟨ow, g1, rfl⟩, (m1.fresh b ow g1).2⟩) (.inr ⟨rfl, .inr g1⟩) (fun _ b _ _ => noref_none b) (.inl rfl)
    ⟨ow, ty, vs, rhoSet_same _ _ _, g2, g3, by rw [rho_same g1]; exact TFits.give (show TRel w (owned M0 (rhoSet ρ id none)) (rhoSet ρ id none) (.osl id k 0 0) (.slice none 0 0) from Or.inl ⟨rhoSet_same _ _ _, rfl, rfl, rfl⟩) p g4 h4⟩
  exact ⟨ha.defers, ha.size, _, n1, fun i => n2 _ _ (by cases s.get i <;> rfl) (m2 _ _ (by cases s.get i <;> rfl) (ht i))⟩
theorem aw_nilcell {c : Code} {Q : Exit → ASt → Prop} {s : ASt} (b p id k : Nat) (e : TypeId) {cs : List TV} (hb : lookO s.mem b = some (.box cs)) (hc : cs[p]? = some (.g (.lit (.slice none 0 0)))) (hf : lookO s.mem id = none) (hne : Nat.beq id b = false)
    (h : AWp E w0 M0 c Q ⟨s.n, s.tmps, (b, .box (cs.set p (.osl id k 0 0))) :: (id, .arr e k []) :: s.mem⟩) : AWp E w0 M0 c Q s := fun a w ha => h a w (arel_nilcell ha hb hc hf hne)
end
end Go.Sim
namespace Go.Sim
/-! ## one block alone turns, or is made, in a drawn region -/
section
variable {E : Env} {ops : Array Oper} {o : Oper} {os : List Oper} {cs : List Cls} {s : ASt} {r : TV} {K : ASt → Prop}
theorem st_wq {d i : Nat} {blk : Blk} (hd : o.dst = some d) (hg : o.guard = none) (he : ∀ m, lookO m i = lookO s.mem i → EffW E o m (s.eval E) r ((i, blk) :: m) none) (hn : Nat.blt d s.n = true) (hk : AOps E ops os cs ⟨s.n, upd d r s.tmps, (i, blk) :: s.mem⟩ K) : AOps E ops (o :: os) (.wq i :: cs) s K :=
  ⟨⟨s.n, upd d r s.tmps, (i, blk) :: s.mem⟩, ⟨fun d' h => by rw [hd] at h; cases h; exact Nat.le_of_ble_eq_true hn, true, r, (i, blk) :: s.mem, none, by unfold Wanted; rw [hg], fun _ => ⟨rfl, blk, fun _ => rfl, he⟩, (by intro h; cases h), by rw [hd]; rfl⟩, hk⟩
theorem st_wqn {i : Nat} {blk : Blk} (hd : o.dst = none) (hg : o.guard = none) (he : ∀ m, lookO m i = lookO s.mem i → EffW E o m (s.eval E) r ((i, blk) :: m) none) (hk : AOps E ops os cs ⟨s.n, s.tmps, (i, blk) :: s.mem⟩ K) : AOps E ops (o :: os) (.wq i :: cs) s K :=
  ⟨⟨s.n, s.tmps, (i, blk) :: s.mem⟩, ⟨(fun d' h => by rw [hd] at h; cases h), true, r, (i, blk) :: s.mem, none, by unfold Wanted; rw [hg], fun _ => ⟨rfl, blk, fun _ => rfl, he⟩, (by intro h; cases h), by rw [hd]; rfl⟩, hk⟩
end
end Go.Sim

namespace Go.Sim
/-! ## a slice in a variable's cell is written no more -/
section
variable {E : Env} {w0 : World} {M0 : Nat → Prop}
/-- the blocks of m are those of s, but for block b -/
def MemF (s : ASt) (b : Nat) (blk : Blk) : Mem → Prop
  | [] => True
  | (i, B) :: r => (bif Nat.beq i b then B = blk else lookO s.mem i = some B) ∧ MemF s b blk r
theorem memF_look {s : ASt} {b : Nat} {blk : Blk} : ∀ {m : Mem}, MemF s b blk m → ∀ i B, lookO m i = some B → (i = b ∧ B = blk) ∨ (i ≠ b ∧ lookO s.mem i = some B)
  | [], _, _, _, h => by cases h
  | (j, B') :: r, hm, i, B, h => by
    simp only [lookO] at h
    cases hj : Nat.beq j i with
    | true =>
      rw [hj] at h
      have hji := Nat.eq_of_beq_eq_true hj
      subst hji
      simp only [cond_true, Option.some.injEq] at h
      subst h
      have h1 := hm.1
      cases hb : Nat.beq j b with
      | true => rw [hb] at h1; exact .inl ⟨Nat.eq_of_beq_eq_true hb, h1⟩
      | false =>
        rw [hb] at h1
        exact .inr ⟨fun e => by subst e; simp at hb, h1⟩
    | false => rw [hj] at h; exact memF_look hm.2 i B h
theorem aw_frzcell {c : Code} {Q : Exit → ASt → Prop} {s : ASt} (b p id k N : Nat) {e : TypeId} {cs : List TV} {xs : List (List G)} {l : List (Nat × TV)} {m : Mem} (hb : lookO s.mem b = some (.box cs)) (hc : cs[p]? = some (.osl id k 0 N)) (hx : lookO s.mem id = some (.arr e k xs)) (hN : xs.length = N)
    (h1 : WeakL s l) (h2 : MemF s b (.box (cs.set p (.g (.sl k xs)))) m) (h3 : closedB l m = true) (hid : lookO m id = none)
    (h : AWp E w0 M0 c Q (stt s.n l m)) (hbw : bowIn E m = true := by rfl) : AWp E w0 M0 c Q s := by
  intro a w ha
  refine h a w ?_
  obtain ⟨ρ, hm, ht⟩ := ha.ex
  let ρ' : Rho := fun id => if (lookO m id).isSome = true then ρ id else none
  have hρ : ∀ id, (lookO m id).isSome = true → ρ' id = ρ id := fun id hi => by simp only [ρ', if_pos hi]
  have hρ' : ∀ id x, ρ' id = some x → ρ id = some x ∧ (lookO m id).isSome = true := by
    intro id x hx
    simp only [ρ'] at hx
    split at hx
    · rename_i hi; exact ⟨hx, hi⟩
    · cases hx
  have hM : ∀ b, owned M0 ρ' b → owned M0 ρ b := by
    rintro b (hb | ⟨id, o, ho, rfl⟩)
    · exact .inl hb
    · exact .inr ⟨id, o, (hρ' id _ ho).1, rfl⟩
  have hlent : lookO E.bow id = none := by
    cases hq : lookO E.bow id with
    | none => rfl
    | some x =>
      have := List.all_eq_true.1 hbw (id, x) (lookO_mem _ hq)
      simp only [hid] at this
      cases this
  have hno : ∀ ow, ρ id = some (some ow) → ¬ owned M0 ρ' ow.b := by
    rintro ow ho (hM0 | ⟨i, o, hi, he⟩)
    · exact not_lent hm ho hlent (.inl hM0)
    · have := hm.inj i id o ow (hρ' i _ hi).1 ho he
      subst this
      have := (hρ' i _ hi).2
      rw [hid] at this; cases this
  simp only [closedB, Bool.and_eq_true, List.all_eq_true] at h3
  refine ⟨ha.defers, ha.size, ρ', ⟨hm.below, hm.m0, ?_, ?_, ?_, ?_, ?_, hm.lentM, ?_⟩, ?_⟩
  · intro g vs hg
    have := hm.glob g vs hg
    exact ⟨⟨fun hb => this.1.1 (hM _ hb), this.1.2⟩, this.2.mono (fun _ _ _ => rfl) (fun b _ => hM b) this.1.1⟩
  · intro id x hx
    have := (hρ' id x hx).2
    cases hl : lookO m id with
    | none => rw [hl] at this; cases this
    | some b => exact ⟨b, hl⟩
  · exact fun id ow ho => hm.fresh id ow (hρ' id _ ho).1
  · exact fun id id' ow ow' ho ho' => hm.inj id id' ow ow' (hρ' id _ ho).1 (hρ' id' _ ho').1
  · intro id x hx
    rw [hρ id (List.all_eq_true.1 hbw (id, x) (lookO_mem _ hx))]
    exact hm.keep id x hx
  · intro i blk' hb0
    have hb0 : lookO m i = some blk' := hb0
    have hi : (lookO m i).isSome = true := by rw [hb0]; rfl
    rcases memF_look h2 i blk' hb0 with ⟨rfl, rfl⟩ | ⟨_, hold⟩
    · obtain ⟨ow, ty, vs, g1, g2, g3, g4⟩ := hm.blk i _ hb
      have hcl := h3.2 (i, .box (cs.set p (.g (.sl k xs)))) (lookO_mem _ hb0)
      obtain ⟨v, h4, h5, _⟩ := TFits.get p g4 hc
      have hview := osl_view hm hx h5 (Nat.zero_le _) (by rw [hN]; exact Nat.le_refl _)
      obtain ⟨a', cap, e1, k1, k2, k3, k4, k5, k6⟩ := hview
      subst hN
      simp only [Nat.sub_zero, List.drop_zero, List.take_length] at e1 k1 k4 k5 k6
      have hv : TRel w (owned M0 ρ') ρ (.g (.sl k xs)) v := by
        refine ⟨a', cap, e1, k1, k2, k5, ?_⟩
        rcases k6 with k6 | ⟨b', o, cur, news, rfl, ⟨ow2, q0, rfl⟩, q1, q2, q3⟩
        · have : xs = [] := List.eq_nil_of_length_eq_zero k6
          subst this
          exact .inl ⟨rfl, fun ha => (k3 ha).1⟩
        · exact .inr ⟨ow2.b, o, rfl, hno ow2 q0, cells_of_fits q1 (q2.mono (fun _ _ _ => rfl) (fun b _ => hM b)) q3⟩
      refine ⟨ow, ty, vs, by rw [hρ i hi]; exact g1, g2, g3, ?_⟩
      have hf : TFits w (owned M0 ρ) ρ (cs.set p .any) vs := TFits.forget p g4
      have hf' : TFits w (owned M0 ρ') ρ' (cs.set p .any) vs := hf.sub (m := m) hM hρ fun c hc' => by
        have hall : ∀ c ∈ cs.set p (.g (.sl k xs)), refsIn m c = true := by simpa [blkIn] using hcl
        rcases List.mem_or_eq_of_mem_set hc' with h | rfl
        · obtain ⟨j, hj⟩ := List.mem_iff_getElem?.1 hc'
          by_cases hjp : p = j
          · subst hjp
            have hlt : p < cs.length := (List.getElem?_eq_some_iff.1 hc).1
            rw [List.getElem?_set_self hlt] at hj
            cases hj; rfl
          · rw [List.getElem?_set_ne hjp] at hj
            exact hall c (List.mem_iff_getElem?.2 ⟨j, by rw [List.getElem?_set_ne hjp]; exact hj⟩)
        · rfl
      have := TFits.give (tv := .g (.sl k xs)) (ρ := ρ') (show TRel w (owned M0 ρ') ρ' (.g (.sl k xs)) v from hv) p hf' h4
      rwa [List.set_set] at this
    · have := hm.blk i blk' hold
      cases blk' with
      | box cs =>
        obtain ⟨ow, e, vs, g1, g2, g3, g4⟩ := this
        have hcl := h3.2 (i, .box cs) (lookO_mem _ hb0)
        exact ⟨ow, e, vs, by rw [hρ i hi]; exact g1, g2, g3, g4.sub hM hρ (by simpa [blkIn] using hcl)⟩
      | arr e k xs =>
        rcases this with ⟨g1, g2⟩ | ⟨ow, vs, g1, g2, g3, g4, g5, g6, g7⟩
        · exact .inl ⟨by rw [hρ i hi]; exact g1, g2⟩
        · exact .inr ⟨ow, vs, by rw [hρ i hi]; exact g1, g2, g3, g4, g5, g6, g7.mono (fun _ _ _ => rfl) (fun b _ => hM b)⟩
      | mp es =>
        obtain ⟨ow, en, cl, g1, g2, g3, g4⟩ := this
        exact ⟨ow, en, cl, by rw [hρ i hi]; exact g1, g2, g3.mono (fun _ _ _ => rfl) (fun b _ => hM b), g4⟩
      | it s pos =>
        obtain ⟨ow, g1, g2, g3⟩ := this
        exact ⟨ow, by rw [hρ i hi]; exact g1, g2, g3⟩
      | mit es seen =>
        obtain ⟨ow, g1, g2, g3⟩ := this
        exact ⟨ow, by rw [hρ i hi]; exact g1, g2, g3.mono rfl (fun _ _ _ => rfl) (fun b _ => hM b)⟩
      | gone => trivial
  · intro i
    show TRel _ _ _ (lookT l i) _
    rcases weakL_get h1 i with h4 | ⟨h4, v, h5, h6⟩
    · rw [h4]; trivial
    · rw [h4]
      refine (ht i).sub (m := m) ?_ hM hρ
      rw [← h4, h6]
      exact h3.1 (i, v) h5
end
end Go.Sim
namespace Go.Sim
section
variable {E : Env}
def GSub (x y : G) : Prop := ∀ w M v, x.p w M v → y.p w M v
def GSubL : List G → List G → Prop
  | [], [] => True
  | x :: xs, y :: ys => GSub x y ∧ GSubL xs ys
  | _, _ => False
theorem nil_imp (k : Nat) : GSub (.lit (.slice none 0 0)) (.sl k []) := fun w M v h => by
  have h : v = .slice none 0 0 := h
  subst h
  exact nil_sl k w M
theorem fits_gsub {w : World} {M : Nat → Prop} : ∀ {xs ys : List G} {vs : List Value}, GSubL xs ys → Fits w M xs vs → Fits w M ys vs
  | [], [], [], _, _ => trivial
  | _ :: _, _ :: _, _ :: _, h, k => ⟨⟨h.1 _ _ _ k.1.1, k.1.2⟩, fits_gsub h.2 k.2⟩
  | [], [], _ :: _, _, k => k.elim
  | _ :: _, _ :: _, [], _, k => k.elim
  | [], _ :: _, _, h, _ => h.elim
  | _ :: _, [], _, h, _ => h.elim
theorem agg_sub {xs ys : List G} (h : GSubL xs ys) : GSub (.agg xs) (.agg ys) := fun w M v ⟨vs, h1, h2⟩ => ⟨vs, h1, fits_gsub h h2⟩
theorem rv_sub {s : ASt} {rv : ResultVar} {x y : G} (h : RVal E s rv x) (hs : GSub x y) : RVal E s rv y := by
  intro w0 M0 ρ w tmps hm ht
  obtain ⟨v, h1, h2⟩ := h w0 M0 ρ w tmps hm ht
  exact ⟨v, h1, hs _ _ _ h2⟩
end
end Go.Sim
namespace Go.Sim
theorem refsM {id : Nat} {mem : Mem} (h : (mem.all fun p => Nat.beq p.1 id || (match lookO mem p.1 with | some b => b.noref (some id) | none => true)) = true) : ∀ i blk, lookO mem i = some blk → i ≠ id → blk.noref (some id) = true := by
  intro i blk hb hne
  have := List.all_eq_true.1 h (i, blk) (lookO_mem _ hb)
  simp only [Bool.or_eq_true, hb] at this
  rcases this with h1 | h1
  · exact absurd (Nat.eq_of_beq_eq_true h1) hne
  · exact h1
end Go.Sim

