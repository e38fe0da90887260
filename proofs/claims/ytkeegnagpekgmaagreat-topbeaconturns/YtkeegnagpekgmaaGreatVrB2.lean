/-
  What is proved: lemmas and contracts of functions on the way to the law topBeaconTurns (part 11).
-/
import Derived.Test.YtkeegnagpekgmaaGreatVrA5
import Derived.Test.YtkeegnagpekgmaaGreatVrB1
import Derived.Test.YtkeegnagpekgmaaGreatVrA7
import Derived.Test.YtkeegnagpekgmaaGreatVrA9
import Derived.Test.YtkeegnagpekgmaaGreatVrA8
import Derived.Test.YtkeegnagpekgmaaGreatVrA6
import Derived.Test.YtkeegnagpekgmaaGreatVrA2
import Derived.RangeFuncBox
import Derived.RangeFuncNested
import Derived.RangeFuncBound
import Derived.RangeFuncCalls
import Derived.RangeFuncLeaves
import Derived.Shelf.Abstract
import Derived.Shelf.RegionOpen
import Derived.WalkKit
import Derived.OwnWalkIn
import Derived.TacticsInMore
import Derived.LoopNIn
import Derived.LoopIn
import Derived.Maps.AppendAt
import Derived.Lib.Hide
import Derived.Stop.RegionWithIn
import Derived.Sort.QuietIn
set_option linter.unusedSectionVars false
set_option linter.unusedSimpArgs false
set_option linter.unusedVariables false
set_option linter.unnecessarySimpa false
set_option linter.deprecated false
namespace Go.Sim
section
variable {E : Env} {w0 : World} {M0 : Nat → Prop}
def ConBX (X : (Nat → Option Own) → Prop) (E : Env) (f : FuncId) (args : List TV) (mem : Mem) (r : G) (mem' : Mem) : Prop :=
 ∀ w M ρ (vs : List Value), X (fun id => (ρ id).getD none) → (∀ b, M b → b < w.heap.size) → GlOk E w (owned M ρ) → (∀ id x, ρ id = some x → ∃ blk, lookO mem id = some blk) →
  (∀ id ow, ρ id = some (some ow) → ow.b < w.heap.size ∧ ¬ M ow.b) → (∀ id id' ow ow', ρ id = some (some ow) → ρ id' = some (some ow') → ow.b = ow'.b → id = id') →
  (∀ id blk, lookO mem id = some blk → BRel w (owned M ρ) ρ id blk) → ArgsT w (owned M ρ) ρ args vs →
  Calls E.P f vs.toArray w fun e w' => ∃ v, e = .returned v ∧ BelowX (fun b => ∃ id ow, ρ id = some (some ow) ∧ ow.b = b) w w' ∧ (∀ id blk, (id, blk) ∈ mem' → BRel w' (owned M ρ) ρ id blk) ∧ r.p w' (owned M ρ) v
theorem ConBX.lend {X : (Nat → Option Own) → Prop} {f : FuncId} {args : List TV} {r : G} {m m' : Mem} {mem : Mem} {x : Nat → Option Own} (h : ConBX X E f args m r m') : ConBX X (E.lend mem x) f args m r m' := h
theorem conBX_of_aw {X : (Nat → Option Own) → Prop} {f : FuncId} {fn : Func} {c : Code} {args : List TV} {mem mem' : Mem} {r : G} (hf : E.P.funcs[f]? = some fn) (hb : fn.body = some c) (hn0 : Nat.ble args.length fn.ntmps = true) (hl : lendable mem mem' = true)
  (h : ∀ w0 M0 x, X x → AWp (E.lend mem x) w0 M0 c (DoneB (E.lend mem x) fn r mem') ⟨fn.ntmps, initTV args, mem⟩) (hrn : E.rnd = none := by rfl) (hdf : E.mks = false := by rfl) : ConBX X E f args mem r mem' := by
 intro w M ρ vs hX hM hgl hdom hown hinj hblk hv;simp only [lendable, Bool.and_eq_true, List.all_eq_true] at hl;have hn := Nat.le_of_ble_eq_true hn0;have hlen := hv.length
 let x : Nat → Option Own := fun id => (ρ id).getD none
 have hx : ∀ id y, ρ id = some y → x id = y := fun id y h => by simp only [x, h, Option.getD_some]
 have hkeep : ∀ id y, lookO (E.lend mem x).bow id = some y → ρ id = some y := by
  intro id y h;obtain ⟨⟨b, h1⟩, rfl⟩ := (lookO_mapk x).1 h;obtain ⟨z, hz⟩ := (hblk id b h1).has (hl.1 _ (lookO_mem _ h1));rw [hx id z hz]; exact hz
 have hback : ∀ id y, ρ id = some y → lookO (E.lend mem x).bow id = some y := fun id y h => (lookO_mapk x).2 ⟨hdom id y h, (hx id y h).symm⟩;refine calls_of_wp hf hb ?_
 have ha : ARel (E.lend mem x) w M ⟨fn.ntmps, initTV args, mem⟩ { tmps := vs.toArray ++ Array.replicate (fn.ntmps - vs.toArray.size) undef, defers := [] } w := by
  refine ⟨fun _ => rfl, ?_, ρ, ?_, Marks.nil, ?_⟩
  ·simp; omega
  ·exact ⟨BelowX.refl _ w, hM, hgl, hdom, fun id ow ho => ⟨.inr ⟨id, ow, hback id _ ho, rfl⟩, (hown id ow ho).1⟩, hinj, hkeep, fun b ⟨id, ow, h1, h2⟩ => h2 ▸ (hown id ow (hkeep id _ h1)).2, hblk⟩
  ·intro i;have := initTV_rel (fn.ntmps - vs.length) hv i;show TRel _ _ _ (initTV args i) _;rw [Array.getD_eq_getD_getElem?];rw [show (vs.toArray ++ Array.replicate (fn.ntmps - vs.toArray.size) undef) = (vs ++ List.replicate (fn.ntmps - vs.length) undef).toArray by simp];rw [List.getElem?_toArray];exact this
 refine wp_mono (wp_env (E := E.lend mem x) (h w M x hX _ w ha) hrn) ?_;rintro e a' w' ⟨s', ha', hq⟩
 have fin : ResOk (E.lend mem x) fn s' r ∧ MemL s' mem' → a'.defers = [] ∧ ∃ v, (results fn a'.tmps).run E.P w' = .ok v w' ∧ (∃ u, Ending.returned v = .returned u ∧ BelowX (fun b => ∃ id ow, ρ id = some (some ow) ∧ ow.b = b) w w' ∧ (∀ id blk, (id, blk) ∈ mem' → BRel w' (owned M ρ) ρ id blk) ∧ r.p w' (owned M ρ) u) := by
  rintro ⟨hq, hm'⟩;obtain ⟨ρf, hm, _, ht⟩ := ha'.ex;obtain ⟨v, h1, h2, _⟩ := hq.run ρf w' a'.tmps hm ht
  have hsub : ∀ b, owned M ρ b → owned M ρf b := by
   rintro b (h | ⟨id, o, h, rfl⟩)
   ·exact .inl h
   ·exact .inr ⟨id, o, hm.keep id _ (hback id _ h), rfl⟩
  refine ⟨ha'.defers hdf, v, h1, v, rfl, hm.below.mono (fun b ⟨id, ow, h3, h4⟩ => ⟨id, ow, hkeep id _ h3, h4⟩), fun id blk hi => ?_, r.mono h2 (fun _ _ _ => rfl) (fun b _ hb => ?_)⟩
  ·have h3 := hl.2 _ hi;simp only [Bool.and_eq_true] at h3;refine BRel.ground h3.2 ?_ ((hm.blk id blk (memL_mem hm' hi)).sub hsub)
   cases h4 : lookO mem id with
   | none => rw [h4] at h3; cases h3.1
   | some b =>
    obtain ⟨z, hz⟩ := (hblk id b h4).has (hl.1 _ (lookO_mem _ h4));rw [hz, hm.keep id z (hback id z hz)]
  ·rcases hb with hb | ⟨id, o, hb, rfl⟩
   ·exact .inl hb
   ·exact .inr ⟨id, o, hback id _ hb, rfl⟩
 cases e with
 | ret => exact fin hq
 | normal => exact fin hq
 | _ => exact hq.elim
theorem upon_callBX {X : (Nat → Option Own) → Prop} {f : FuncId} {args : List TV} {memc memc' : Mem} {r : G} {vs : List Value} {ρ : Rho} {mem : Mem} {w : World} {res : Result Next} (σ : List (Nat × Nat)) (hc : ConBX X E f args memc r memc') (hX : ∀ ρc : Rho, (∀ p c, lookO σ p = some c → ρc p = ρ c) → X (fun id => (ρc id).getD none)) (hm : MRel E w0 M0 ρ mem w)
  (hl : LendL σ mem memc) (hσ : lendOk σ memc memc' = true) (hv : ∀ ρc : Rho, (∀ p c, lookO σ p = some c → ρc p = ρ c) → ArgsT w (owned M0 ρ) ρc args vs)
  (hres : res = .ok (.enter f vs.toArray) w) : UponW E w0 M0 ρ w (renM σ memc' ++ mem) (.g r) none res := by
 subst hres;simp only [lendOk, Bool.and_eq_true, List.all_eq_true, List.any_eq_true] at hσ;obtain ⟨s1, s2, s3⟩ := hσ
 let ρc : Rho := fun p => (lookO σ p).bind ρ
 have hρc : ∀ p c, lookO σ p = some c → ρc p = ρ c := fun p c h => by simp only [ρc, h, Option.bind_some]
 have hρc' : ∀ p x, ρc p = some x → ∃ c, lookO σ p = some c ∧ ρ c = some x := by
  intro p x h;simp only [ρc] at h
  cases hp : lookO σ p with
  | none => rw [hp] at h; cases h
  | some c => rw [hp] at h; exact ⟨c, rfl, h⟩
 let M : Nat → Prop := fun b => owned M0 ρ b ∧ ¬ ∃ p ow, ρc p = some (some ow) ∧ ow.b = b
 have hown : owned M ρc = owned M0 ρ := by
  funext b
  apply propext
  constructor
  ·rintro (h | ⟨p, o, h, rfl⟩)
   ·exact h.1
   ·obtain ⟨c, _, h2⟩ := hρc' p _ h;exact .inr ⟨c, o, h2, rfl⟩
  ·intro h
   by_cases hb : ∃ p ow, ρc p = some (some ow) ∧ ow.b = b
   ·obtain ⟨p, ow, h1, h2⟩ := hb; exact .inr ⟨p, ow, h1, h2⟩
   ·exact .inl ⟨h, hb⟩
 have hinj : ∀ id id' ow ow', ρc id = some (some ow) → ρc id' = some (some ow') → ow.b = ow'.b → id = id' := by
  intro p q ow ow' h1 h2 h3;obtain ⟨c, c1, c2⟩ := hρc' p _ h1;obtain ⟨d, d1, d2⟩ := hρc' q _ h2;have := hm.inj c d ow ow' c2 d2 h3;subst this;exact sigma_inj s1 (lookO_mem _ c1) (lookO_mem _ d1)
 have hcall := hc w M ρc vs (hX ρc hρc) (fun b h => hm.lt b h.1) (by rw [hown]; exact hm.glob)
  (fun p x h => by
   obtain ⟨c, c1, _⟩ := hρc' p x h;have := (s2 (p, c) (lookO_mem _ c1)).1
   exact Option.isSome_iff_exists.1 this)
  (fun p ow h => by
   obtain ⟨c, _, c2⟩ := hρc' p _ h
   exact ⟨(hm.fresh c ow c2).2, fun hM => hM.2 ⟨p, ow, h, rfl⟩⟩)
  hinj
  (fun p blk h => by
   obtain ⟨c, c1, c2, c3⟩ := lend_look hl h;rw [hown]
   exact BRel.ground c3 (hρc p c c1) (hm.blk c blk c2))
  (by rw [hown]; exact hv ρc hρc)
 rw [hown] at hcall;refine hcall.mono ?_;rintro e w' ⟨v, rfl, hb, hblk, hr⟩
 have hlow : ∀ b, b < w.heap.size → ¬ owned M0 ρ b → w'.heap[b]? = w.heap[b]? := fun b hlt hno => hb.block b hlt (by
  rintro ⟨p, ow, h1, rfl⟩;obtain ⟨c, _, c2⟩ := hρc' p _ h1
  exact hno (.inr ⟨c, ow, c2, rfl⟩))
 refine ⟨v, rfl, ρ, ⟨?_, hm.m0, hm.glob.grow hb.size hlow, ?_, ?_, hm.inj, hm.keep, hm.lentM, ?_⟩, fun tv u hn h => h.mono none hn hlow (fun _ _ h => h) (fun _ _ _ => rfl), hr⟩
 ·refine ⟨hb.os.trans hm.below.os, hb.tape.trans hm.below.tape, hb.output.trans hm.below.output, Nat.le_trans hm.below.size hb.size, fun k hk hlk => ?_⟩;refine (hb.block k (Nat.lt_of_lt_of_le hk hm.below.size) ?_).trans (hm.below.block k hk hlk);rintro ⟨p, ow, h1, rfl⟩;obtain ⟨c, _, c2⟩ := hρc' p _ h1
  rcases (hm.fresh c ow c2).1 with h | h
  ·omega
  ·exact hlk h
 ·intro id x h;obtain ⟨b, hb⟩ := hm.dom id x h;exact lookO_app hb
 ·exact fun id ow ho => ⟨(hm.fresh id ow ho).1, Nat.lt_of_lt_of_le (hm.fresh id ow ho).2 hb.size⟩
 ·intro id blk h
  rcases lookO_renM h with ⟨p, h1, h2⟩ | ⟨h1, h2⟩
  ·have h3 := s3 _ h1;simp only [Bool.and_eq_true] at h3;obtain ⟨c, hc⟩ := Option.isSome_iff_exists.1 h3.1;rw [hc, Option.getD_some] at h2;subst h2;exact BRel.ground h3.2 (hρc p c hc).symm (hblk p blk h1)
  ·refine (hm.blk id blk h2).mono none (by simp) (noref_none _) (fun ow ho => ?_) hlow (fun _ _ h => h) (fun _ _ _ => rfl);refine hb.block ow.b (hm.fresh id ow ho).2 ?_;rintro ⟨p, ow2, g1, g2⟩;obtain ⟨c, c1, c2⟩ := hρc' p _ g1;have := hm.inj c id ow2 ow c2 ho g2;subst this;obtain ⟨q, hq, hq2⟩ := (s2 (p, c) (lookO_mem _ c1)).2;have hq2 := Nat.eq_of_beq_eq_true hq2;refine h1 q hq ?_;rw [hq2];show (lookO σ p).getD 0 = c;rw [c1]; rfl
def At (y1 y2 : Own) (x : Nat → Option Own) : Prop := x 1 = some y1 ∧ x 2 = some y2
abbrev cloV (f : Nat) (y1 y2 : Own) : Value := .func (.func f) #[] #[.pointer (some ⟨y1.b, y1.o + 0, none⟩), .pointer (some ⟨y2.b, y2.o + 0, none⟩)]
theorem eff_makeFP {o : Oper} {ev : Operand → TV} {f : Nat} {s1 s2 : Operand} {c1 c2 : Nat} {y1 y2 : Own} (ho : o.op = .makeFunc (.func f) #[] #[s1, s2]) (h1 : ev s1 = .ptr c1 0) (h2 : ev s2 = .ptr c2 0) (b1 : lookO E.bow c1 = some (some y1)) (b2 : lookO E.bow c2 = some (some y2)) (mem : Mem) :
  Eff E o mem ev (.g (.lit (cloV f y1 y2))) := by
 intro w0 M0 ρ w e hm hx;have g1 := hx s1 (by rw [ho]; simp [Op.operands]);have g2 := hx s2 (by rw [ho]; simp [Op.operands]);rw [h1] at g1; rw [h2] at g2;obtain ⟨ow1, q1, q2⟩ := g1;obtain ⟨ow2, q3, q4⟩ := g2;have k1 := hm.keep c1 _ b1;have k2 := hm.keep c2 _ b2;rw [k1] at q1; cases q1;rw [k2] at q3; cases q3
 have hrun : (execOp e o).run E.P w = .ok (.value (cloV f y1 y2)) w := by
  simp [execOp, ho, q2, q4, cloV, Instr.makeFunc]
 rw [hrun];exact ⟨Grow.refl w, rfl⟩
theorem args_app {w : World} {M : Nat → Prop} {ρ : Rho} : ∀ {a b : List TV} {va vb : List Value}, ArgsT w M ρ a va → ArgsT w M ρ b vb → ArgsT w M ρ (a ++ b) (va ++ vb)
 | [], _, [], _, _, h => h
 | [], _, _ :: _, _, h, _ => h.elim
 | _ :: _, _, [], _, h, _ => h.elim
 | _ :: _, _, _ :: _, _, h, k => ⟨h.1, args_app h.2 k⟩
theorem eff_callCl {o : Oper} {mem : Mem} {ev : Operand → TV} {f : Nat} {z : Operand} {aps : Array Operand} {ts : Array TypeId} {args : List TV} {memc memc' : Mem} {r : G} {y1 y2 : Own} (c1 c2 : Nat) (ho : o.op = .call ⟨.value z, aps, ts⟩)
  (hk : Known E.P f) (hz : ev z = .g (.lit (cloV f y1 y2))) (hc : ConBX (At y1 y2) E f (args ++ [.ptr 1 0, .ptr 2 0]) memc r memc') (ha : aps.toList.map (fun x => some (ev x)) = args.map (renT [(1, c1), (2, c2)])) (hl : LendL [(1, c1), (2, c2)] mem memc) (hσ : lendOk [(1, c1), (2, c2)] memc memc' = true)
  (b1 : lookO E.bow c1 = some (some y1)) (b2 : lookO E.bow c2 = some (some y2)) : EffW E o mem ev (.g r) (renM [(1, c1), (2, c2)] memc' ++ mem) none := by
 intro w0 M0 ρ w e hm hx;obtain ⟨fn, h1, h2, h3⟩ := hk
 have hef : e z = cloV f y1 y2 := by
  have := hx z (by rw [ho]; simp [Op.operands, Call.operands]);rw [hz] at this;exact this
 have k1 := hm.keep c1 _ b1;have k2 := hm.keep c2 _ b2;have e1 : lookO [((1 : Nat), c1), (2, c2)] 1 = some c1 := rfl;have e2 : lookO [((1 : Nat), c1), (2, c2)] 2 = some c2 := rfl;refine upon_callBX (vs := aps.toList.map e ++ [.pointer (some ⟨y1.b, y1.o + 0, none⟩), .pointer (some ⟨y2.b, y2.o + 0, none⟩)]) [(1, c1), (2, c2)] hc (fun ρc hρ => ?_) hm hl hσ (fun ρc hρ => ?_) ?_
 ·have r1 := (hρ 1 c1 e1).trans k1;have r2 := (hρ 2 c2 e2).trans k2;exact ⟨by simp only [r1]; rfl, by simp only [r2]; rfl⟩
 ·refine args_app (args_ren hρ (fun x hx' => hx x (by rw [ho]; simp [Op.operands, Call.operands]; exact .inr (by simpa using hx'))) ha) ?_;exact ⟨⟨y1, (hρ 1 c1 e1).trans k1, rfl⟩, ⟨y2, (hρ 2 c2 e2).trans k2, rfl⟩, trivial⟩
 ·simp [execOp, ho, resolve, hef, cloV, Deferred.ofValue, invoke, run_callFunc h1 h2 h3]
def Env.pin (E : Env) (c1 c2 : Nat) (y1 y2 : Own) : Env := ⟨E.P, E.gl, E.orders, [(c1, some y1), (c2, some y2)], E.rnd, E.mks⟩
theorem lookO_two {c1 c2 id : Nat} {y1 y2 : Own} {x : Option Own} (h : lookO [(c1, some y1), (c2, some y2)] id = some x) : (id = c1 ∧ x = some y1) ∨ (id = c2 ∧ x = some y2) := by
 simp only [lookO] at h
 cases hb : Nat.beq c1 id with
 | true => rw [hb] at h; exact .inl ⟨(Nat.eq_of_beq_eq_true hb).symm, by simpa using h.symm⟩
 | false =>
  rw [hb] at h
  cases hb2 : Nat.beq c2 id with
  | true => rw [hb2] at h; exact .inr ⟨(Nat.eq_of_beq_eq_true hb2).symm, by simpa using h.symm⟩
  | false => rw [hb2] at h; cases h
theorem aw_pin {c : Code} {Q : Exit → ASt → Prop} {s : ASt} (c1 c2 : Nat) {cs1 cs2 : List TV} (hb0 : E.bow = []) (h1 : lookO s.mem c1 = some (.box cs1)) (h2 : lookO s.mem c2 = some (.box cs2)) (hne : Nat.beq c1 c2 = false)
  (h : ∀ y1 y2, AWp (E.pin c1 c2 y1 y2) w0 M0 c Q s) : AWp E w0 M0 c Q s := by
 intro a w ha;obtain ⟨hdf, hsz, ρ, hm, hmk, ht⟩ := ha;obtain ⟨y1, _, _, r1, _⟩ := hm.blk c1 _ h1;obtain ⟨y2, _, _, r2, _⟩ := hm.blk c2 _ h2;have nl : ∀ b, ¬ E.lent b := fun b => lent_nil hb0;have n1 : w0.heap.size ≤ y1.b := ((hm.fresh c1 y1 r1).1).resolve_right (nl _);have n2 : w0.heap.size ≤ y2.b := ((hm.fresh c2 y2 r2).1).resolve_right (nl _)
 have hL : ∀ b, (E.pin c1 c2 y1 y2).lent b → w0.heap.size ≤ b := by
  rintro b ⟨id, ow, hl, rfl⟩
  rcases lookO_two hl with ⟨_, e⟩ | ⟨_, e⟩
  ·cases e; exact n1
  ·cases e; exact n2
 have hm' : MRel (E.pin c1 c2 y1 y2) w0 M0 ρ s.mem w := by
  refine ⟨hm.below.mono (fun b hb => absurd hb (nl b)), hm.m0, hm.glob, hm.dom, fun id ow ho => ⟨((hm.fresh id ow ho).1).imp (fun h => h) (fun h => absurd h (nl _)), (hm.fresh id ow ho).2⟩, hm.inj, ?_, ?_, hm.blk⟩
  ·intro id x hx
   rcases lookO_two hx with ⟨rfl, rfl⟩ | ⟨rfl, rfl⟩
   ·exact r1
   ·exact r2
  ·intro b hb hM0;have := hL b hb;have := hm.m0 b hM0
   omega
 refine wpIn_mono (h y1 y2 a w ⟨hdf, hsz, ρ, hm', hmk, ht⟩) ?_;rintro e a' w' ⟨s', ⟨hdf', hsz', ρ', hm2, hmk', ht'⟩, hq⟩;refine ⟨s', ⟨hdf', hsz', ρ', ⟨?_, hm2.m0, hm2.glob, hm2.dom, ?_, hm2.inj, ?_, ?_, hm2.blk⟩, hmk', ht'⟩, hq⟩
 ·refine ⟨hm2.below.os, hm2.below.tape, hm2.below.output, hm2.below.size, fun k hk _ => hm2.below.block k hk fun hl => ?_⟩;have := hL k hl
  omega
 ·intro id ow ho;refine ⟨.inl ?_, (hm2.fresh id ow ho).2⟩
  rcases (hm2.fresh id ow ho).1 with h | h
  ·exact h
  ·exact hL _ h
 ·intro id x hx;rw [hb0] at hx; cases hx
 ·intro b hb;exact absurd hb (nl b)
theorem Con.pin {f : FuncId} {args : List G} {r : G} {c1 c2 : Nat} {y1 y2 : Own} (h : Con E f args r) : Con (E.pin c1 c2 y1 y2) f args r := h
theorem ConBX.pin {X : (Nat → Option Own) → Prop} {f : FuncId} {args : List TV} {r : G} {m m' : Mem} {c1 c2 : Nat} {y1 y2 : Own} (h : ConBX X E f args m r m') : ConBX X (E.pin c1 c2 y1 y2) f args m r m' := h
end
end Go.Sim
set_option maxRecDepth 10000
namespace Go.Sim
open Go.Proofs
def s1106_l1 (self : (List Int) → S1190 → Option (Bool × S1190)) (a0 : List Int) (a1 : S1190) : List Int → Nat → Option (Bool × S1190)
 | [], k4 => some (false, a1)
 | y5 :: t6, k4 => bindO (ixO a0 0) fun y7 => bindO (s1108 a1 y7 y5) fun r8 => bindO (s1109 (List.length a0 + 1) r8 (List.drop (Int.toNat 1) a0)) fun r9 => (bif r9 then bindO (self (List.drop (Int.toNat 1) a0) r8) fun r10 => some (r10.1, r10.2) else s1106_l1 self a0 a1 t6 (k4 + 1))
def s1106 : Nat → (List Int) → S1190 → Option (Bool × S1190)
 | 0, _, _ => none
 | kf_ + 1, a0, a1 => (bif decide ((List.length a0 : Int) = 0) then some (true, a1) else bindO (ixO a0 0) fun y1 => bindO (s1107 a1 y1) fun r2 => s1106_l1 (fun z0_ z1_ => s1106 kf_ z0_ z1_) a0 a1 r2 0)
theorem c1106 {g : List (Nat × List Value)} (kf_ : Nat) : ∀ (a0 : List Int) (a1 : S1190) {R : Bool × S1190} {ow1 : Own} {ow2 : Own} (hb : a1.turns.length ≤ 1000) (hb2 : a1.stands.length ≤ 1000) (hb3 : a1.given.length ≤ 1000) (hb4 : a0.length ≤ 1000) (hR : s1106 kf_ a0 a1 = some R), ConBX (At ow1 ow2) (EG g) 39 [.g (G.sl 1 (List.map cInt a0)), .ptr 1 0, .ptr 2 0] [(1, .box [.g (G.sl 3 (List.map S1122.c a1.stands)), .g (G.sl 5 (List.map S1124.c a1.turns)), .g (G.int a1.buffer), .g (G.sl 1 (List.map cInt a1.given))]), (2, .box [.g (G.lit (cloV 39 ow1 ow2))])] (G.bool R.1) [(1, .box [.g (G.sl 3 (List.map S1122.c R.2.stands)), .g (G.sl 5 (List.map S1124.c R.2.turns)), .g (G.int R.2.buffer), .g (G.sl 1 (List.map cInt R.2.given))]), (2, .box [.g (G.lit (cloV 39 ow1 ow2))])] := by
 induction kf_ with
 | zero => intro a0 a1 R ow1 ow2 hb hb2 hb3 hb4 hR; rw [s1106] at hR; cases hR
 | succ kf_ ih =>
 intro a0 a1 R ow1 ow2 hb hb2 hb3 hb4 hR;rw [s1106] at hR;(try dsimp only at hR);refine conBX_of_aw Tryz.func39 rfl rfl rfl fun w0 M0 x hX_ => ?_;refine len_sl (f := cInt) (l := a0) 0 rfl fun hla0 => ?_;refine aw_seq ?_;refine aw_region [.p] ?_;refine st rfl rfl (eff_assigng rfl rfl) rfl ?_;refine st_nil ?_;refine aw_seq ?_;refine aw_seq ?_;refine aw_region [.p, .p, .p] ?_;refine st rfl rfl (eff_moveg rfl rfl) rfl ?_;refine st rfl rfl (eff_lenM (f := cInt) (l := a0) rfl Tryz.underlying51 rfl) rfl ?_;refine st rfl rfl (eff_eql rfl rfl rfl) rfl ?_;refine st_nil ?_;refine aw_cond _ rfl (fun h1 => ?_) (fun h1 => ?_)
 ·replace h1 : (decide ((List.length a0 : Int) = 0)) = true := h1;replace hR := condT hR h1;(try simp only [Bool.or_eq_true, Bool.and_eq_true, Bool.or_eq_false_iff, Bool.and_eq_false_iff, Bool.not_eq_true', Bool.not_eq_false', decide_eq_true_eq, decide_eq_false_iff_not] at h1);refine aw_seq ?_;refine aw_region [.p] ?_;refine st rfl rfl (eff_assigng rfl rfl) rfl ?_;refine st_nil ?_;refine aw_ret ?_;obtain rfl := Option.some.inj hR;show ResOk _ _ _ _ ∧ MemL _ _;exact ⟨res_c rfl (rv_g rfl), ⟨rfl, rfl, trivial⟩⟩
 ·replace h1 : (decide ((List.length a0 : Int) = 0)) = false := h1;replace hR := condF hR h1;(try simp only [Bool.or_eq_true, Bool.and_eq_true, Bool.or_eq_false_iff, Bool.and_eq_false_iff, Bool.not_eq_true', Bool.not_eq_false', decide_eq_true_eq, decide_eq_false_iff_not] at h1);refine aw_skip ?_;refine aw_seq ?_;refine aw_seq ?_;obtain ⟨y1, by1, hR⟩ := bindO_inv hR;obtain ⟨r2, br2, hR⟩ := bindO_inv hR;refine aw_draw [.r, .p, .p, .p, .p, .p, .p] (by kernel_rfl) ?_;refine st_r rfl rfl (eff_loadOA rfl ty1191 rfl rfl rfl rfl) rfl ?_;refine st rfl rfl (eff_moveg rfl rfl) rfl ?_;refine st rfl rfl (eff_ix (f := cInt) (l := a0) (a := y1) rfl Tryz.underlying51 ty3 rfl rfl (ixO_nn by1) (ixO_get by1)) rfl ?_;refine st rfl rfl (eff_load rfl ty3 rfl) rfl ?_;refine st rfl rfl (eff_call rfl K1107 rfl (Con.lend (c1107 a1 y1 (by first | assumption | omega | (simp [copyL_len]; done) | (simp [copyL_len]; omega)) (by first | assumption | omega | (simp [copyL_len]; done) | (simp [copyL_len]; omega)) br2)) (ag_cons rfl (ag_cons rfl ag_nil))) rfl ?_;refine st rfl rfl (eff_lenM (f := cInt) (l := r2) rfl Tryz.underlying51 rfl) rfl ?_;refine st rfl rfl (eff_moveg rfl rfl) rfl ?_;refine st_nil ?_;refine aw_block ?_;refine aw_loop_g (γ := Nat × (List Int)) (fun g => ([(0, .g (G.sl 1 (List.map cInt a0))), (1, .ptr 1 0), (2, .ptr 2 0), (15, .g (G.sl 1 (List.map cInt r2))), (16, .g (G.int (List.length r2 : Int))), (17, .g (G.int ((g.1 : Nat) : Int)))], [(1, .box [.g (G.sl 3 (List.map S1122.c a1.stands)), .g (G.sl 5 (List.map S1124.c a1.turns)), .g (G.int a1.buffer), .g (G.sl 1 (List.map cInt a1.given))]), (2, .box [.g (G.lit (cloV 39 ow1 ow2))])])) (fun g => r2.drop g.1 = g.2 ∧ s1106_l1 (fun z0_ z1_ => s1106 kf_ z0_ z1_) a0 a1 g.2 g.1 = some R) (fun g => List.length g.2) ⟨rfl, (0, r2), ⟨rfl, rfl, rfl, rfl, rfl, rfl, trivial⟩, ⟨rfl, rfl, trivial⟩, rfl, ⟨rfl, (by exact hR)⟩, trivial⟩ ?_
  ·rintro ⟨k4, t6⟩ ⟨hd, hR⟩;replace hd : r2.drop k4 = t6 := hd;replace hR : s1106_l1 (fun z0_ z1_ => s1106 kf_ z0_ z1_) a0 a1 t6 k4 = some R := hR;refine aw_seq ?_;refine aw_region [.p] ?_;refine st rfl rfl (eff_lss rfl rfl rfl) rfl ?_;refine st_nil ?_;refine len_sl (f := cInt) (l := r2) 15 rfl fun hlz1 => ?_;refine aw_seq ?_;refine aw_cond _ rfl (fun h2 => ?_) (fun h2 => ?_)
   ·replace h2 : (decide (((k4 : Nat) : Int) < (List.length r2 : Int))) = true := h2;obtain ⟨y5, t6, rfl, hx1, hd⟩ := drop_cons hd (decT h2);replace h2 := decT h2;rw [s1106_l1] at hR;(try dsimp only at hR);refine aw_skip ?_;refine aw_seq ?_;refine aw_block ?_;refine aw_seq ?_;refine aw_region [.p, .p, .p] ?_;refine st rfl rfl (eff_ix (f := cInt) (l := r2) (a := y5) rfl Tryz.underlying51 ty3 rfl rfl (Int.natCast_nonneg _) hx1) rfl ?_;refine st rfl rfl (eff_load rfl ty3 rfl) rfl ?_;refine st rfl rfl (eff_assigng rfl rfl) rfl ?_;refine st_nil ?_;refine aw_seq ?_;obtain ⟨y7, by7, hR⟩ := bindO_inv hR;obtain ⟨r8, br8, hR⟩ := bindO_inv hR;have hw := poss_le br8 hb hb2 hb3;refine aw_draw [.rq 1, .p, .p, .p, .p, .p, .al 7, .wq 7] (by kernel_rfl) ?_;refine st_rq (i := 1) rfl rfl rfl (fun m_ hm_ => eff_loadOA rfl ty1191 rfl hm_ rfl rfl) rfl ?_;refine st rfl rfl (eff_moveg rfl rfl) rfl ?_;refine st rfl rfl (eff_ix (f := cInt) (l := a0) (a := y7) rfl Tryz.underlying51 ty3 rfl rfl (ixO_nn by7) (ixO_get by7)) rfl ?_;refine st rfl rfl (eff_load rfl ty3 rfl) rfl ?_;refine st rfl rfl (eff_moveg rfl rfl) rfl ?_;refine st rfl rfl (eff_call rfl K1108 rfl (Con.lend (c1108 a1 y7 y5 (by first | assumption | omega | (simp [copyL_len]; done) | (simp [copyL_len]; omega)) br8)) (ag_cons rfl (ag_cons rfl (ag_cons rfl ag_nil)))) rfl ?_;refine st_al (i := 7) rfl rfl rfl (fun m_ hm_ => eff_alloc 7 rfl z1191 rfl hm_) rfl ?_;refine st_wqn (i := 7) rfl rfl (fun m_ hm_ => eff_store (tv := .g (G.agg [G.sl 3 (List.map S1122.c r8.stands), G.sl 5 (List.map S1124.c r8.turns), G.int r8.buffer, G.sl 1 (List.map cInt r8.given)])) rfl ty1191 rfl rfl (hm_.trans rfl) rfl rfl) ?_;refine st_nil ?_;refine aw_seq ?_;obtain ⟨r9, br9, hR⟩ := bindO_inv hR;refine aw_draw [.r, .p, .p, .p] (by kernel_rfl) ?_;refine st_r rfl rfl (eff_loadOA rfl ty1191 rfl rfl rfl rfl) rfl ?_;refine st rfl rfl (eff_moveg rfl rfl) rfl ?_;refine st rfl rfl (eff_slD (f := cInt) (l := a0) rfl Tryz.underlying51 ty3 rfl (bnd_some rfl (by decide)) (by simp; omega)) rfl ?_;refine st rfl rfl (eff_call rfl K1109 rfl (Con.lend (c1109 (List.length a0 + 1) r8 (List.drop (Int.toNat 1) a0) hw.1 hw.2.1 hw.2.2 (by simp; omega) br9)) (ag_cons rfl (ag_cons rfl ag_nil))) rfl ?_;refine st_nil ?_;refine aw_cond _ rfl (fun h4 => ?_) (fun h4 => ?_)
    ·replace h4 : (r9) = true := h4;replace hR := condT hR h4;(try simp only [Bool.or_eq_true, Bool.and_eq_true, Bool.or_eq_false_iff, Bool.and_eq_false_iff, Bool.not_eq_true', Bool.not_eq_false', decide_eq_true_eq, decide_eq_false_iff_not] at h4);refine aw_seq ?_;refine aw_region [.r, .w] ?_;refine st_r rfl rfl (eff_loadOA rfl ty1191 rfl rfl rfl rfl) rfl ?_;refine st_wn rfl rfl (eff_store (tv := .g (G.agg [G.sl 3 (List.map S1122.c r8.stands), G.sl 5 (List.map S1124.c r8.turns), G.int r8.buffer, G.sl 1 (List.map cInt r8.given)])) rfl ty1191 rfl rfl rfl rfl rfl) ?_;refine st_nil ?_;refine aw_seq ?_;obtain ⟨r10, br10, hR⟩ := bindO_inv hR;refine aw_draw [.r, .p, .p, .w, .p] (by kernel_rfl) ?_;refine st_r rfl rfl (eff_loadO rfl ty2100 rfl rfl rfl) rfl ?_;refine st rfl rfl (eff_moveg rfl rfl) rfl ?_;refine st rfl rfl (eff_slD (f := cInt) (l := a0) rfl Tryz.underlying51 ty3 rfl (bnd_some rfl (by decide)) (by simp; omega)) rfl ?_;refine st_w rfl rfl (eff_callCl (args := [.g (G.sl 1 (List.map cInt (List.drop (Int.toNat 1) a0)))]) 1 2 rfl K1106 rfl (ConBX.lend (ih (List.drop (Int.toNat 1) a0) r8 hw.1 hw.2.1 hw.2.2 (by simp; omega) br10)) (at_cons rfl rfl at_nil) ⟨⟨_, rfl, rfl, rfl⟩, ⟨_, rfl, rfl, rfl⟩, trivial⟩ rfl (congrArg some hX_.1) (congrArg some hX_.2)) rfl ?_;refine st rfl rfl (eff_assigng rfl rfl) rfl ?_;refine st_nil ?_;refine aw_ret ?_;obtain rfl := Option.some.inj hR;show ResOk _ _ _ _ ∧ MemL _ _;exact ⟨res_c rfl (rv_g rfl), ⟨rfl, rfl, trivial⟩⟩
    ·replace h4 : (r9) = false := h4;replace hR := condF hR h4;(try simp only [Bool.or_eq_true, Bool.and_eq_true, Bool.or_eq_false_iff, Bool.and_eq_false_iff, Bool.not_eq_true', Bool.not_eq_false', decide_eq_true_eq, decide_eq_false_iff_not] at h4);refine aw_skip ?_;refine aw_region [.p, .p] ?_;refine st rfl rfl (eff_add rfl rfl rfl (by unfold I64; omega)) rfl ?_;refine st rfl rfl (eff_moveg rfl rfl) rfl ?_;refine st_nil ?_;exact ⟨rfl, (k4 + 1, t6), ⟨rfl, rfl, rfl, rfl, rfl, rfl, trivial⟩, ⟨rfl, rfl, trivial⟩, rfl, ⟨hd, hR⟩, by simp⟩
   ·replace h2 : (decide (((k4 : Nat) : Int) < (List.length r2 : Int))) = false := h2;obtain rfl := drop_nil hd (decF h2);rw [s1106_l1] at hR;refine aw_exit ?_;refine aw_seq ?_;refine aw_region [.p] ?_;refine st rfl rfl (eff_assigng rfl rfl) rfl ?_;refine st_nil ?_;refine aw_ret ?_;obtain rfl := Option.some.inj hR;show ResOk _ _ _ _ ∧ MemL _ _;exact ⟨res_c rfl (rv_g rfl), ⟨rfl, rfl, trivial⟩⟩
theorem zf192 : zeroK Tryz.prog 100 = some [.nilFunc] := by kernel_rfl
theorem asg8 {X : Int} {n : Nat} (h : ¬ s1085 [X, s1086 (decide ((8 : Int) < (n : Int))) 22] ≠ 0) : X = 0 ∧ n ≤ 8 := by
 have h := Decidable.not_not.1 h;rw [s1085_eq, s89_zero] at h;have h1 := h X (by simp);have h2 := h _ (List.mem_cons_of_mem _ List.mem_cons_self);rw [s1086_ite] at h2;refine ⟨h1, ?_⟩
 split at h2
 ·cases h2
 ·rename_i hc; simp at hc; omega
theorem rep_l1 {a1 : Int} : ∀ (k : Nat) (x1 : Int) (x2 R : List Int), s1105_l1 a1 k x1 x2 = some R → x2.length = Int.toNat a1 → 0 ≤ x1 → x2.take x1.toNat = List.replicate (min x1.toNat (Int.toNat a1)) (-1) → R = List.replicate (Int.toNat a1) (-1)
 | 0, _, _, _, h, _, _, _ => by rw [s1105_l1] at h; cases h
 | k + 1, x1, x2, R, h, q1, q2, q3 => by
  rw [s1105_l1] at h
  cases hc : decide (x1 < (Int.toNat a1 : Int)) with
  | true =>
   have h := condT h hc;have hc := of_decide_eq_true hc
   have hx : x1.toNat < Int.toNat a1 := by omega
   have hlt : (List.take (Int.toNat x1) x2).length = x1.toNat := by rw [List.length_take]; omega
   have hl := cpy_len (s := List.take (Int.toNat x1) x2) q1 hx;refine rep_l1 k _ _ R h hl (by omega) ?_;rw [hlt] at *
   have hm : (x1 + ((min x1.toNat (Int.toNat a1 - x1.toNat) : Nat) : Int)).toNat = x1.toNat + min x1.toNat (Int.toNat a1 - x1.toNat) := by omega
   rw [hm, List.take_left' (by simp only [List.length_append, List.length_take]; omega)];rw [q3, Nat.min_eq_left (by omega : x1.toNat ≤ Int.toNat a1), List.take_replicate, List.replicate_append_replicate]
   congr 1; omega
  | false =>
   have h := condF h hc;have hc := of_decide_eq_false hc
   cases h
   rw [List.take_of_length_le (by omega)] at q3;rw [q3]; congr 1; omega
theorem rep_ok {a1 : Int} {R : List Int} (h : s1105 [-1] a1 = some R) : R = List.replicate (Int.toNat a1) (-1) := by
 unfold s1105 s1105_j2 s1105_j1 at h;refine rep_l1 _ _ _ R h ?_ (by omega) ?_
 ·rw [copyL_len, List.length_replicate]
 ·simp only [List.length_replicate, List.length_cons, List.length_nil];unfold copyL;rw [List.length_replicate]
  rcases hn : Int.toNat a1 with _ | n
  ·simp
  ·simp
theorem rep_le {a1 : Int} {R : List Int} {n : Nat} (h : s1105 [-1] a1 = some R) (h1 : a1 = (n : Int)) (h2 : n ≤ 8) : R.length ≤ 1000 := by
 rw [rep_ok h, List.length_replicate]; omega
end Go.Sim
set_option maxRecDepth 10000
namespace Go.Sim
open Go.Proofs
def s1032_l1 (a0 : List S1122) (a1 : List S1124) (a2 : Int) (r1 : List Int) : List S1124 → Nat → (List Int) → Option ((List Int) × Int)
 | [], k4, x2 => bindO (s1106 (List.length x2 + 1) x2 (S1190.mk a0 a1 a2 r1)) fun r7 => (bif !r7.1 then some ([], 23) else some (r7.2.given, 0))
 | y5 :: t6, k4, x2 => s1032_l1 a0 a1 a2 r1 t6 (k4 + 1) (x2 ++ [((k4 : Nat) : Int)])
def s1032 (a0 : List S1122) (a1 : List S1124) (a2 : Int) : Option ((List Int) × Int) :=
 (bif decide ((s1085 [(s1104 a0 a1 a2), (s1086 (decide (8 < (List.length a1 : Int))) 22)]) ≠ 0) then some ([], (s1085 [(s1104 a0 a1 a2), (s1086 (decide (8 < (List.length a1 : Int))) 22)])) else bindO (s1105 [(-1)] (List.length a1 : Int)) fun r1 => s1032_l1 a0 a1 a2 r1 a1 0 (List.replicate 0 0))
theorem c1032 {g : List (Nat × List Value)} (a0 : List S1122) (a1 : List S1124) (a2 : Int) {R : (List Int) × Int}   (hR : s1032 a0 a1 a2 = some R) : Con (EG g) 12 [G.sl 3 (List.map S1122.c a0), G.sl 5 (List.map S1124.c a1), G.int a2] (G.tup [G.sl 1 (List.map cInt R.1), G.int R.2]) := by
 unfold s1032 at hR;refine con_of_aw Tryz.func12 rfl rfl fun w0 M0 => ?_;refine len_sl (f := S1122.c) (l := a0) 0 rfl fun hla0 => ?_;refine len_sl (f := S1124.c) (l := a1) 1 rfl fun hla1 => ?_;refine aw_seq ?_;refine aw_region [.p, .p] ?_;refine st rfl rfl (eff_assigng rfl rfl) rfl ?_;refine st rfl rfl (eff_assigng rfl rfl) rfl ?_;refine st_nil ?_;refine aw_seq ?_;refine aw_seq ?_;refine aw_region [.p, .p, .p, .p, .p, .p, .p, .p, .p, .p, .p] ?_;refine st rfl rfl (eff_moveg rfl rfl) rfl ?_;refine st rfl rfl (eff_moveg rfl rfl) rfl ?_;refine st rfl rfl (eff_moveg rfl rfl) rfl ?_;refine st rfl rfl (eff_call rfl K1104 rfl (c1104 a0 a1 a2) (ag_cons rfl (ag_cons rfl (ag_cons rfl ag_nil)))) rfl ?_;refine st rfl rfl (eff_moveg rfl rfl) rfl ?_;refine st rfl rfl (eff_lenM (f := S1124.c) (l := a1) rfl Tryz.underlying26 rfl) rfl ?_;refine st rfl rfl (eff_gtr rfl rfl rfl) rfl ?_;refine st rfl rfl (eff_call rfl K1086 rfl (c1086 (decide (8 < (List.length a1 : Int))) 22) (ag_cons rfl (ag_cons rfl ag_nil))) rfl ?_;refine st rfl rfl (eff_buildSlice rfl Tryz.underlying131 ty37 z37 rfl (ps_cons rfl (ps_cons rfl ps_nil)) rfl (by simp []) (by decide)) rfl ?_;refine st rfl rfl (eff_call rfl K1085 rfl (c1085 [(s1104 a0 a1 a2), (s1086 (decide (8 < (List.length a1 : Int))) 22)]) (ag_cons rfl ag_nil)) rfl ?_;refine st rfl rfl (eff_assigng rfl rfl) rfl ?_;refine st_nil ?_;refine aw_seq ?_;refine aw_region [.p, .p] ?_;refine st rfl rfl (eff_moveg rfl rfl) rfl ?_;refine st rfl rfl (eff_neq rfl rfl rfl) rfl ?_;refine st_nil ?_;refine aw_cond _ rfl (fun h1 => ?_) (fun h1 => ?_)
 ·replace h1 : (decide ((s1085 [(s1104 a0 a1 a2), (s1086 (decide (8 < (List.length a1 : Int))) 22)]) ≠ 0)) = true := h1;replace hR := condT hR h1;(try simp only [Bool.or_eq_true, Bool.and_eq_true, Bool.or_eq_false_iff, Bool.and_eq_false_iff, Bool.not_eq_true', Bool.not_eq_false', decide_eq_true_eq, decide_eq_false_iff_not] at h1);refine aw_seq ?_;refine aw_region [.p, .p, .p] ?_;refine st rfl rfl (eff_moveg rfl rfl) rfl ?_;refine st rfl rfl (eff_assigng rfl rfl) rfl ?_;refine st rfl rfl (eff_assigng rfl rfl) rfl ?_;refine st_nil ?_;refine aw_ret ?_;obtain rfl := Option.some.inj hR;exact resN rfl ⟨rv_nilG rfl (nil_sl _), rv_g rfl, trivial⟩ (by simp)
 ·replace h1 : (decide ((s1085 [(s1104 a0 a1 a2), (s1086 (decide (8 < (List.length a1 : Int))) 22)]) ≠ 0)) = false := h1;replace hR := condF hR h1;(try simp only [Bool.or_eq_true, Bool.and_eq_true, Bool.or_eq_false_iff, Bool.and_eq_false_iff, Bool.not_eq_true', Bool.not_eq_false', decide_eq_true_eq, decide_eq_false_iff_not] at h1);obtain ⟨hz8, hl8⟩ := asg8 h1;have hst := (stands_ok (ground_zero.1 hz8).1).1;refine aw_skip ?_;refine aw_seq ?_;obtain ⟨r1, br1, hR⟩ := bindO_inv hR;have hrl := rep_le br1 rfl hl8;refine aw_region [.p, .p, .p, .p, .p, .p, .p, .p, .w, .w] ?_;refine st rfl rfl (eff_moveg rfl rfl) rfl ?_;refine st rfl rfl (eff_moveg rfl rfl) rfl ?_;refine st rfl rfl (eff_moveg rfl rfl) rfl ?_;refine st rfl rfl (eff_buildSlice rfl Tryz.underlying51 ty3 z3 rfl (ps_cons rfl ps_nil) rfl (by simp []) (by decide)) rfl ?_;refine st rfl rfl (eff_moveg rfl rfl) rfl ?_;refine st rfl rfl (eff_lenM (f := S1124.c) (l := a1) rfl Tryz.underlying26 rfl) rfl ?_;refine st rfl rfl (eff_call rfl K1105 rfl (c1105 [(-1)] (List.length a1 : Int) rfl (Int.natCast_nonneg _) (by omega) br1) (ag_cons rfl (ag_cons rfl ag_nil))) rfl ?_;refine st rfl rfl (eff_build rfl z1191 rfl pl1191 (pb_cons rfl (pb_cons rfl (pb_cons rfl (pb_cons rfl pb_nil)))) rfl) rfl ?_;refine st_w rfl rfl (eff_alloc 9 rfl z1191 rfl rfl) rfl ?_;refine st_wn rfl rfl (eff_store (tv := .g (G.agg [G.sl 3 (List.map S1122.c a0), G.sl 5 (List.map S1124.c a1), G.int a2, G.sl 1 (List.map cInt r1)])) rfl ty1191 rfl rfl rfl rfl rfl) ?_;refine st_nil ?_;refine aw_seq ?_;refine aw_region [.p, .p, .w, .p] ?_;refine st rfl rfl (eff_moveg rfl rfl) rfl ?_;refine st rfl rfl (eff_lenM (f := S1124.c) (l := a1) rfl Tryz.underlying26 rfl) rfl ?_;refine st_w rfl rfl (eff_makeS (f := cInt) (z := 0) 36 rfl mk82 rfl rfl rfl (by first | exact Int.le_refl _ | omega) (by first | decide | omega) rfl rfl rfl) rfl ?_;refine st rfl rfl (eff_assignO rfl rfl) rfl ?_;refine st_nil ?_;refine aw_seq ?_;refine aw_seq ?_;refine aw_region [.p, .p, .p] ?_;refine st rfl rfl (eff_moveg rfl rfl) rfl ?_;refine st rfl rfl (eff_lenM (f := S1124.c) (l := a1) rfl Tryz.underlying26 rfl) rfl ?_;refine st rfl rfl (eff_moveg rfl rfl) rfl ?_;refine st_nil ?_;refine aw_block ?_;refine aw_loop_g (γ := Nat × (List S1124) × (List Int)) (fun g => ([(9, .ptr 9 0), (10, .osl 36 1 0 (List.length g.2.2)), (38, .g (G.int (List.length a1 : Int))), (39, .g (G.int ((g.1 : Nat) : Int)))], [(9, .box [.g (G.sl 3 (List.map S1122.c a0)), .g (G.sl 5 (List.map S1124.c a1)), .g (G.int a2), .g (G.sl 1 (List.map cInt r1))]), (36, .arr 3 1 (List.map cInt g.2.2))])) (fun g => g.2.2.length ≤ g.1 ∧ g.1 ≤ a1.length ∧ a1.drop g.1 = g.2.1 ∧ s1032_l1 a0 a1 a2 r1 g.2.1 g.1 g.2.2 = some R) (fun g => List.length g.2.1) ⟨rfl, (0, a1, List.replicate 0 0), ⟨rfl, rfl, rfl, rfl, trivial⟩, ⟨rfl, rfl, trivial⟩, rfl, ⟨(by first | (simp; done) | (simp; omega)), (by first | (simp; done) | (simp; omega)), rfl, (by exact hR)⟩, trivial⟩ ?_
  ·rintro ⟨k4, t6, x2⟩ ⟨iv1_0, iv1_1, hd, hR⟩;replace hd : a1.drop k4 = t6 := hd;replace hR : s1032_l1 a0 a1 a2 r1 t6 k4 x2 = some R := hR;replace iv1_0 : x2.length ≤ k4 := iv1_0;replace iv1_1 : k4 ≤ a1.length := iv1_1;refine aw_seq ?_;refine aw_region [.p] ?_;refine st rfl rfl (eff_lss rfl rfl rfl) rfl ?_;refine st_nil ?_;refine aw_seq ?_;refine aw_cond _ rfl (fun h2 => ?_) (fun h2 => ?_)
   ·replace h2 : (decide (((k4 : Nat) : Int) < (List.length a1 : Int))) = true := h2;obtain ⟨y5, t6, rfl, hx1, hd⟩ := drop_cons hd (decT h2);replace h2 := decT h2;rw [s1032_l1] at hR;(try dsimp only at hR);refine aw_skip ?_;refine aw_seq ?_;refine aw_block ?_;refine aw_seq ?_;refine aw_region [.p, .p] ?_;refine st rfl rfl (eff_moveg rfl rfl) rfl ?_;refine st rfl rfl (eff_assigng rfl rfl) rfl ?_;refine st_nil ?_;refine aw_region [.p, .p, .p, .k, .p] ?_;refine st rfl rfl (eff_moveO rfl rfl) rfl ?_;refine st rfl rfl (eff_moveg rfl rfl) rfl ?_;refine st rfl rfl (eff_buildSlice rfl Tryz.underlying51 ty3 z3 rfl (ps_cons rfl ps_nil) rfl (by simp []) (by decide)) rfl ?_;refine st_k rfl rfl (eff_appL (f := cInt) (out := x2) (new := [((k4 : Nat) : Int)]) rfl app82 rfl rfl (src_eq rfl (src_sl (by decide) (by simp []))) (refsN rfl) (by simp; omega)) rfl ?_;refine st rfl rfl (eff_assignO rfl rfl) rfl ?_;refine st_nil ?_;refine aw_region [.p, .p] ?_;refine st rfl rfl (eff_add rfl rfl rfl (by unfold I64; omega)) rfl ?_;refine st rfl rfl (eff_moveg rfl rfl) rfl ?_;refine st_nil ?_;exact ⟨rfl, (k4 + 1, t6, x2 ++ [((k4 : Nat) : Int)]), ⟨rfl, rfl, rfl, rfl, trivial⟩, ⟨rfl, rfl, trivial⟩, rfl, ⟨(by first | omega | (dsimp only; omega) | (simp at *; omega)), (by first | omega | (dsimp only; omega) | (simp at *; omega)), hd, hR⟩, by simp⟩
   ·replace h2 : (decide (((k4 : Nat) : Int) < (List.length a1 : Int))) = false := h2;obtain rfl := drop_nil hd (decF h2);rw [s1032_l1] at hR;refine aw_exit ?_;refine aw_seq ?_;refine aw_freeze (l := [(9, .ptr 9 0), (10, .g (G.sl 1 (List.map cInt x2)))]) (m := [(9, .box [.g (G.sl 3 (List.map S1122.c a0)), .g (G.sl 5 (List.map S1124.c a1)), .g (G.int a2), .g (G.sl 1 (List.map cInt r1))])]) 36 rfl ⟨.inl ⟨rfl, rfl⟩, .inr (frz_arr rfl), trivial⟩ ⟨rfl, trivial⟩ rfl rfl ?_;refine aw_region [.w] ?_;refine st_w rfl rfl (eff_alloc 12 rfl zf192 rfl rfl) rfl ?_;refine st_nil ?_;refine aw_pin 9 12 rfl rfl rfl rfl fun ow1 ow2 => ?_;refine aw_seq ?_;refine aw_region [.p, .w] ?_;refine st rfl rfl (eff_makeFP rfl rfl rfl rfl rfl) rfl ?_;refine st_wn rfl rfl (eff_store (tv := .g (G.lit (cloV 39 ow1 ow2))) rfl ty2100 rfl rfl rfl rfl rfl) ?_;refine st_nil ?_;refine aw_seq ?_;refine aw_seq ?_;obtain ⟨r7, br7, hR⟩ := bindO_inv hR;refine aw_region [.r, .p, .w, .p] ?_;refine st_r rfl rfl (eff_loadO rfl ty2100 rfl rfl rfl) rfl ?_;refine st rfl rfl (eff_moveg rfl rfl) rfl ?_;refine st_w rfl rfl (eff_callCl (args := [.g (G.sl 1 (List.map cInt x2))]) 9 12 rfl K1106 rfl (ConBX.pin (c1106 (List.length x2 + 1) x2 (S1190.mk a0 a1 a2 r1) (by dsimp only; omega) (by dsimp only; omega) hrl (by omega) br7)) (at_cons rfl rfl at_nil) ⟨⟨_, rfl, rfl, rfl⟩, ⟨_, rfl, rfl, rfl⟩, trivial⟩ rfl rfl rfl) rfl ?_;refine st rfl rfl (eff_not rfl rfl) rfl ?_;refine st_nil ?_;refine aw_cond _ rfl (fun h4 => ?_) (fun h4 => ?_)
    ·replace h4 : (!r7.1) = true := h4;replace hR := condT hR h4;(try simp only [Bool.or_eq_true, Bool.and_eq_true, Bool.or_eq_false_iff, Bool.and_eq_false_iff, Bool.not_eq_true', Bool.not_eq_false', decide_eq_true_eq, decide_eq_false_iff_not] at h4);refine aw_seq ?_;refine aw_region [.p, .p] ?_;refine st rfl rfl (eff_assigng rfl rfl) rfl ?_;refine st rfl rfl (eff_assigng rfl rfl) rfl ?_;refine st_nil ?_;refine aw_ret ?_;obtain rfl := Option.some.inj hR;exact resN rfl ⟨rv_nilG rfl (nil_sl _), rv_g rfl, trivial⟩ (by simp)
    ·replace h4 : (!r7.1) = false := h4;replace hR := condF hR h4;(try simp only [Bool.or_eq_true, Bool.and_eq_true, Bool.or_eq_false_iff, Bool.and_eq_false_iff, Bool.not_eq_true', Bool.not_eq_false', decide_eq_true_eq, decide_eq_false_iff_not] at h4);refine aw_skip ?_;refine aw_seq ?_;refine aw_region [.p, .r, .p, .p] ?_;refine st rfl rfl (eff_fieldO rfl fl1191_3 rfl) rfl ?_;refine st_r rfl rfl (eff_loadO rfl ty82 rfl rfl rfl) rfl ?_;refine st rfl rfl (eff_assigng rfl rfl) rfl ?_;refine st rfl rfl (eff_assigng rfl rfl) rfl ?_;refine st_nil ?_;refine aw_ret ?_;obtain rfl := Option.some.inj hR;exact resN rfl ⟨rv_g rfl, rv_g rfl, trivial⟩ (by simp)
def zs (l : List Nat) : List Int := l.map fun i : Nat => (i : Int)
def ovB (T : List S1124) (B : Int) (k i : Nat) : Bool := match T[k]?, T[i]? with | some a, some b => s1130 a b B | _, _ => false
def suB (S : List S1122) (T : List S1124) (i s : Nat) : Bool := match T[i]?, S[s]? with | some t, some x => s1128 t x | _, _ => false
def othN (T : List S1124) (B : Int) (i : Nat) : List Nat := (List.range T.length).filter fun k => decide (k ≠ i) && ovB T B k i
def takB (T : List S1124) (B : Int) (g : List Int) (i s : Nat) : Bool := (othN T B i).any fun k => decide (g[k]? = some (s : Int))
def frB (S : List S1122) (T : List S1124) (B : Int) (g : List Int) (i s : Nat) : Bool := suB S T i s && !takB T B g i s
def freeN (S : List S1122) (T : List S1124) (B : Int) (g : List Int) (i : Nat) : List Nat := (List.range S.length).filter fun s => frB S T B g i s
theorem zs_mem {l : List Nat} {i : Nat} : (i : Int) ∈ zs l ↔ i ∈ l := by
 unfold zs;rw [List.mem_map]
 constructor
 ·rintro ⟨a, h, e⟩
  have : a = i := by omega
  rw [← this]; exact h
 ·intro h; exact ⟨i, h, rfl⟩
theorem s1130_sym (a b : S1124) (B : Int) : s1130 a b B = s1130 b a B := by
 unfold s1130;rw [show max a.Start b.Start = max b.Start a.Start by omega, show min a.End b.End = min b.End a.End by omega]
theorem ovB_sym (T : List S1124) (B : Int) (k i : Nat) : ovB T B k i = ovB T B i k := by
 unfold ovB
 cases T[k]? <;> cases T[i]? <;> first | rfl | exact s1130_sym _ _ _
theorem suB_lt {S : List S1122} {T : List S1124} {i s : Nat} (h : suB S T i s = true) : s < S.length ∧ i < T.length := by
 unfold suB at h
 cases h1 : T[i]? with
 | none => rw [h1] at h; cases h
 | some t =>
  cases h2 : S[s]? with
  | none => rw [h1, h2] at h; cases h
  | some x => exact ⟨(List.getElem?_eq_some_iff.1 h2).1, (List.getElem?_eq_some_iff.1 h1).1⟩
theorem oth_l (p : S1190) (i : Nat) (hi : i < p.turns.length) : ∀ (t : List S1124) (k : Nat) (x : List Int), p.turns.drop k = t →
  s1141_l1 p (i : Int) t k x = some (x ++ zs ((List.range' k t.length).filter fun k => decide (k ≠ i) && ovB p.turns p.buffer k i))
 | [], k, x, _ => by simp [s1141_l1, zs]
 | y :: t, k, x, hd => by
  have hk : k < p.turns.length := by
   have q := congrArg List.length hd;rw [List.length_drop] at q; simp at q; omega
  rw [List.drop_eq_getElem_cons hk] at hd;obtain ⟨e1, e2⟩ := List.cons.inj hd;rw [s1141_l1, ixO_at hi];unfold s1141_j1;dsimp only;rw [List.length_cons, List.range'_succ, List.filter_cons]
  have ho : ovB p.turns p.buffer k i = s1130 y p.turns[i] p.buffer := by
   unfold ovB; rw [List.getElem?_eq_getElem hk, List.getElem?_eq_getElem hi, e1]
  rw [ho]
  by_cases hc : k = i
  ·have h1 : decide (((k : Nat) : Int) ≠ (i : Int)) = false := decide_eq_false (by omega);have h2 : decide (k ≠ i) = false := decide_eq_false (by omega);rw [h1, h2];simp only [cond_false, bindO, Bool.false_and, Bool.false_eq_true, if_false];exact oth_l p i hi t (k + 1) x e2
  ·have h1 : decide (((k : Nat) : Int) ≠ (i : Int)) = true := decide_eq_true (by omega);have h2 : decide (k ≠ i) = true := decide_eq_true hc;rw [h1, h2];simp only [cond_true, bindO, Bool.true_and]
   cases hs : s1130 y p.turns[i] p.buffer
   ·rw [cond_false];simp only [Bool.false_eq_true, if_false];exact oth_l p i hi t (k + 1) x e2
   ·rw [cond_true, oth_l p i hi t (k + 1) _ e2]
    simp [zs]
theorem oth_ok (p : S1190) (i : Nat) (hi : i < p.turns.length) : s1141 p (i : Int) = some (zs (othN p.turns p.buffer i)) := by
 unfold s1141 othN;rw [oth_l p i hi p.turns 0 [] rfl, List.nil_append, List.range_eq_range']
theorem any_ok {f : Int → Option Bool} {b : Int → Bool} : ∀ {l : List Int} {k : Nat}, (∀ x ∈ l, f x = some (b x)) → ∃ r, s1170p_l1 f l k = some r ∧ decide (0 ≤ r) = l.any b
 | [], k, _ => ⟨-1, rfl, rfl⟩
 | x :: l, k, h => by
  rw [s1170p_l1, h x List.mem_cons_self];simp only [bindO];rw [List.any_cons]
  cases hb : b x
  ·obtain ⟨r, h1, h2⟩ := any_ok (l := l) (k := k + 1) fun y hy => h y (List.mem_cons_of_mem _ hy);exact ⟨r, h1, by rw [h2, Bool.false_or]⟩
  ·exact ⟨_, rfl, by rw [Bool.true_or]; exact decide_eq_true (by omega)⟩
theorem cont_ok {f : Int → Option Bool} {b : Int → Bool} {l : List Int} (h : ∀ x ∈ l, f x = some (b x)) : s1140p l f = some (l.any b) := by
 obtain ⟨r, h1, h2⟩ := any_ok (k := 0) h;unfold s1140p s1170p;rw [h1];simp only [bindO];rw [h2]
theorem contains_l (x : Int) : ∀ (l : List Int) (k : Nat), decide (0 ≤ s190_l1 x l k) = decide (x ∈ l)
 | [], k => by simp [s190_l1]
 | y :: l, k => by
  rw [s190_l1]
  by_cases h : x = y
  ·rw [decide_eq_true h, cond_true, decide_eq_true (by omega), decide_eq_true (by rw [h]; exact List.mem_cons_self)]
  ·rw [decide_eq_false h, cond_false, contains_l x l]
   congr 1
   rw [eq_iff_iff, List.mem_cons];exact ⟨.inr, fun q => q.resolve_left h⟩
theorem contains_ok (l : List Int) (x : Int) : s144 l x = decide (x ∈ l) := contains_l x l 0
theorem tak_ok (p : S1190) (i s : Nat) (hg : p.given.length = p.turns.length) : s1140p (zs (othN p.turns p.buffer i)) (fun x0 => s1142 x0 p (s : Int)) = some (takB p.turns p.buffer p.given i s) := by
 have h : ∀ x ∈ zs (othN p.turns p.buffer i), s1142 x p (s : Int) = some (decide (p.given[x.toNat]? = some (s : Int))) := by
  intro x hx;obtain ⟨k, hk, rfl⟩ := List.mem_map.1 hx
  have hlt : k < p.given.length := by
   rw [hg]; exact List.mem_range.1 (List.mem_filter.1 hk).1
  unfold s1142;rw [ixO_at hlt];simp only [bindO];rw [Int.toNat_natCast, List.getElem?_eq_getElem hlt]
  simp
 rw [cont_ok h]
 congr 1
 unfold takB zs;rw [List.any_map]
 rfl
theorem free_l (p : S1190) (i : Nat) (hi : i < p.turns.length) (hg : p.given.length = p.turns.length) : ∀ (t : List S1122) (k : Nat) (x : List Int), p.stands.drop k = t →
  s1107_l1 p (i : Int) t k x = some (x ++ zs ((List.range' k t.length).filter fun s => frB p.stands p.turns p.buffer p.given i s))
 | [], k, x, _ => by simp [s1107_l1, zs]
 | y :: t, k, x, hd => by
  have hk : k < p.stands.length := by
   have q := congrArg List.length hd;rw [List.length_drop] at q; simp at q; omega
  rw [List.drop_eq_getElem_cons hk] at hd;obtain ⟨e1, e2⟩ := List.cons.inj hd;rw [s1107_l1, oth_ok p i hi];simp only [bindO];rw [tak_ok p i k hg, ixO_at hi]
  simp only
  unfold s1107_j1;dsimp only;rw [List.length_cons, List.range'_succ, List.filter_cons]
  have hf : frB p.stands p.turns p.buffer p.given i k = (s1128 p.turns[i] y && !takB p.turns p.buffer p.given i k) := by
   unfold frB suB; rw [List.getElem?_eq_getElem hk, List.getElem?_eq_getElem hi, e1]
  rw [hf]
  cases hs : s1128 p.turns[i] y && !takB p.turns p.buffer p.given i k
  ·rw [cond_false];simp only [Bool.false_eq_true, if_false];exact free_l p i hi hg t (k + 1) x e2
  ·rw [cond_true, free_l p i hi hg t (k + 1) _ e2]
   simp [zs]
theorem free_ok (p : S1190) (i : Nat) (hi : i < p.turns.length) (hg : p.given.length = p.turns.length) : s1107 p (i : Int) = some (zs (freeN p.stands p.turns p.buffer p.given i)) := by
 unfold s1107 freeN;rw [free_l p i hi hg p.stands 0 [] rfl, List.nil_append, List.range_eq_range']
theorem freeN_mem {S : List S1122} {T : List S1124} {B : Int} {g : List Int} {i s : Nat} : s ∈ freeN S T B g i ↔ frB S T B g i s = true := by
 unfold freeN;rw [List.mem_filter, List.mem_range];refine ⟨fun h => h.2, fun h => ⟨?_, h⟩⟩;unfold frB at h;rw [Bool.and_eq_true] at h;exact (suB_lt h.1).1
theorem freeN_nodup (S : List S1122) (T : List S1124) (B : Int) (g : List Int) (i : Nat) : (freeN S T B g i).Nodup := List.Pairwise.filter _ List.nodup_range
theorem pigeon : ∀ {F L : List Nat}, F.Nodup → (∀ x ∈ F, x ∈ L) → F.length ≤ L.length
 | [], _, _, _ => Nat.zero_le _
 | x :: F, L, hn, h => by
  rw [List.nodup_cons] at hn;have hx := h x List.mem_cons_self
  have ih := pigeon (F := F) (L := L.erase x) hn.2 fun y hy => by
   have hyx : y ≠ x := fun e => hn.1 (e ▸ hy);exact (List.mem_erase_of_ne hyx).2 (h y (List.mem_cons_of_mem _ hy))
  rw [List.length_erase_of_mem hx] at ih;have : 0 < L.length := List.length_pos_of_mem hx;rw [List.length_cons]; omega
theorem one_left {F L : List Nat} (hn : F.Nodup) (h : L.length < F.length) : ∃ x ∈ F, x ∉ L := by
 by_cases hc : ∃ x ∈ F, x ∉ L
 ·exact hc
 ·exfalso
  have := pigeon hn (L := L) fun x hx => by
   by_cases hl : x ∈ L
   ·exact hl
   ·exact absurd ⟨x, hx, hl⟩ hc
  omega
def Comp (S : List S1122) (T : List S1124) (B : Int) (g : List Int) (op : List Nat) : Prop :=
 ∃ f : Nat → Nat, (∀ i ∈ op, frB S T B g i (f i) = true) ∧ ∀ i ∈ op, ∀ k ∈ op, i ≠ k → ovB T B i k = true → f i ≠ f k
theorem comp_sub {S : List S1122} {T : List S1124} {B : Int} {g : List Int} {a b : List Nat} (h : Comp S T B g a) (hs : ∀ i ∈ b, i ∈ a) : Comp S T B g b := by
 obtain ⟨f, h1, h2⟩ := h;exact ⟨f, fun i hi => h1 i (hs i hi), fun i hi k hk => h2 i (hs i hi) k (hs k hk)⟩
theorem oth_mem {T : List S1124} {B : Int} {i k : Nat} : k ∈ othN T B i ↔ k < T.length ∧ k ≠ i ∧ ovB T B k i = true := by
 unfold othN; rw [List.mem_filter, List.mem_range]; simp
theorem comp_skip {S : List S1122} {T : List S1124} {B : Int} {g : List Int} {op : List Nat} {i : Nat} (hi : i ∈ op) (hn : op.Nodup) (hlt : ∀ k ∈ op, k < T.length) {L : List Nat} (hL : ∀ k ∈ othN T B i, k ∈ op → k ∈ L) (hlen : L.length < (freeN S T B g i).length) :
  Comp S T B g op ↔ Comp S T B g (op.erase i) := by
 refine ⟨fun h => comp_sub h fun k hk => List.mem_of_mem_erase hk, fun ⟨f, h1, h2⟩ => ?_⟩;obtain ⟨s, hs, hns⟩ := one_left (freeN_nodup S T B g i) (L := L.map f) (by rw [List.length_map]; exact hlen);have hs := freeN_mem.1 hs;have ne : ∀ k ∈ op, k ≠ i → ovB T B k i = true → f k ≠ s := fun k hk hki ho e => hns (e ▸ List.mem_map.2 ⟨k, hL k (oth_mem.2 ⟨hlt k hk, hki, ho⟩) hk, rfl⟩);refine ⟨fun k => if k = i then s else f k, fun k hk => ?_, fun a ha b hb hab ho => ?_⟩
 ·dsimp only
  by_cases hki : k = i
  ·rw [if_pos hki, hki]; exact hs
  ·rw [if_neg hki]; exact h1 k ((List.mem_erase_of_ne hki).2 hk)
 ·dsimp only
  by_cases hai : a = i
  ·by_cases hbi : b = i
   ·exact absurd (hai.trans hbi.symm) hab
   ·rw [if_pos hai, if_neg hbi];exact fun e => ne b hb hbi (by rw [ovB_sym, ← hai]; exact ho) e.symm
  ·by_cases hbi : b = i
   ·rw [if_neg hai, if_pos hbi];exact ne a ha hai (by rw [← hbi]; exact ho)
   ·rw [if_neg hai, if_neg hbi];exact h2 a ((List.mem_erase_of_ne hai).2 ha) b ((List.mem_erase_of_ne hbi).2 hb) hab ho
theorem tak_set {T : List S1124} {B : Int} {g : List Int} {i s k t : Nat} (hi : i < g.length) (hgi : g[i]? = some (-1)) (hki : k ≠ i) :
  takB T B (g.set i (s : Int)) k t = (takB T B g k t || (decide (i ∈ othN T B k) && decide (t = s))) := by
 rw [Bool.eq_iff_iff, Bool.or_eq_true, Bool.and_eq_true];unfold takB;rw [List.any_eq_true, List.any_eq_true];simp only [decide_eq_true_eq]
 constructor
 ·rintro ⟨m, hm, he⟩
  by_cases hmi : i = m
  ·subst hmi;rw [List.getElem?_set_self hi] at he;simp only [Option.some.injEq] at he;exact .inr ⟨hm, by omega⟩
  ·rw [List.getElem?_set_ne hmi] at he;exact .inl ⟨m, hm, he⟩
 ·rintro (⟨m, hm, he⟩ | ⟨h1, h2⟩)
  ·by_cases hmi : i = m
   ·subst hmi;rw [hgi] at he;simp only [Option.some.injEq] at he
    omega
   ·exact ⟨m, hm, by rw [List.getElem?_set_ne hmi]; exact he⟩
  ·exact ⟨i, h1, by rw [List.getElem?_set_self hi, h2]⟩
theorem comp_pick {S : List S1122} {T : List S1124} {B : Int} {g : List Int} {op rest : List Nat} {i : Nat} (hi : i ∈ op) (hlt : ∀ k ∈ op, k < T.length) (hg : g.length = T.length) (hu : g[i]? = some (-1)) (hr : ∀ k, k ∈ rest ↔ k ∈ op ∧ k ≠ i) :
  Comp S T B g op ↔ ∃ s, frB S T B g i s = true ∧ Comp S T B (g.set i (s : Int)) rest := by
 have hil : i < g.length := by rw [hg]; exact hlt i hi
 constructor
 ·rintro ⟨f, h1, h2⟩;refine ⟨f i, h1 i hi, f, fun k hk => ?_, fun a ha b hb => h2 a ((hr a).1 ha).1 b ((hr b).1 hb).1⟩;obtain ⟨hk1, hk2⟩ := (hr k).1 hk;have h3 := h1 k hk1;unfold frB at h3 ⊢;rw [Bool.and_eq_true] at h3 ⊢;refine ⟨h3.1, ?_⟩;rw [tak_set hil hu hk2]
  have h4 : takB T B g k (f k) = false := by simpa using h3.2
  rw [h4, Bool.false_or]
  by_cases ho : i ∈ othN T B k
  ·have := h2 i hi k hk1 (fun e => hk2 e.symm) (oth_mem.1 ho).2.2;rw [show decide (f k = f i) = false from decide_eq_false fun e => this e.symm, Bool.and_false]; rfl
  ·simp [ho]
 ·rintro ⟨s, hs, f, h1, h2⟩
  have hk' : ∀ k ∈ rest, frB S T B g k (f k) = true ∧ (ovB T B i k = true → f k ≠ s) := by
   intro k hk;obtain ⟨hk1, hk2⟩ := (hr k).1 hk;have h3 := h1 k hk;unfold frB at h3;rw [Bool.and_eq_true, tak_set hil hu hk2] at h3;simp only [Bool.not_eq_true', Bool.or_eq_false_iff] at h3;refine ⟨by unfold frB; rw [h3.1, h3.2.1]; rfl, fun ho e => ?_⟩;have : i ∈ othN T B k := oth_mem.2 ⟨hlt i hi, fun e => hk2 e.symm, ho⟩;have h4 := h3.2.2;rw [decide_eq_true this, decide_eq_true e] at h4
   cases h4
  refine ⟨fun k => if k = i then s else f k, fun k hk => ?_, fun a ha b hb hab ho => ?_⟩
  ·dsimp only
   by_cases hki : k = i
   ·rw [if_pos hki, hki]; exact hs
   ·rw [if_neg hki]; exact (hk' k ((hr k).2 ⟨hk, hki⟩)).1
  ·dsimp only
   by_cases hai : a = i
   ·by_cases hbi : b = i
    ·exact absurd (hai.trans hbi.symm) hab
    ·rw [if_pos hai, if_neg hbi];exact fun e => (hk' b ((hr b).2 ⟨hb, hbi⟩)).2 (by rw [← hai]; exact ho) e.symm
   ·by_cases hbi : b = i
    ·rw [if_neg hai, if_pos hbi];exact (hk' a ((hr a).2 ⟨ha, hai⟩)).2 (by rw [ovB_sym, ← hbi]; exact ho)
    ·rw [if_neg hai, if_neg hbi];exact h2 a ((hr a).2 ⟨ha, hai⟩) b ((hr b).2 ⟨hb, hbi⟩) hab ho
structure Opn (T : List S1124) (g : List Int) (op : List Nat) : Prop where
 lt : ∀ k ∈ op, k < T.length
 un : ∀ k ∈ op, g[k]? = some (-1)
 nd : op.Nodup
theorem Opn.sub {T : List S1124} {g : List Int} {a b : List Nat} (h : Opn T g a) (hs : ∀ i ∈ b, i ∈ a) (hn : b.Nodup) : Opn T g b := ⟨fun k hk => h.lt k (hs k hk), fun k hk => h.un k (hs k hk), hn⟩
theorem riv_l (self : S1190 → List Int → Option Bool) (rec1 : Nat → List Int → Int → Option Bool) (p : S1190) (a1 : List Int) (x1 : List Int) (x3 : Int) (k4 : Nat) (y5 : Int) (r11 : List Int) (c : Nat → Bool)
  : ∀ (t : List Nat) (k15 : Nat) (x : Int), (∀ k ∈ t, ∃ v, p.given[k]? = some v ∧ (decide (v < 0) && s144 a1 (k : Int)) = c k) → 0 ≤ x → x + (t.length : Int) ≤ 100000 →
   s1109_l2 self rec1 p a1 x1 x3 k4 y5 r11 (zs t) k15 x = s1109_l2 self rec1 p a1 x1 x3 k4 y5 r11 [] 0 (x + ((t.filter c).length : Int))
 | [], k15, x, _, _, _ => by
  rw [List.filter_nil, List.length_nil, show ((0 : Nat) : Int) = 0 from rfl, Int.add_zero];show s1109_l2 self rec1 p a1 x1 x3 k4 y5 r11 [] k15 x = _;rw [s1109_l2, s1109_l2]
 | k :: t, k15, x, h, q0, q1 => by
  obtain ⟨v, h1, h2⟩ := h k List.mem_cons_self;have hlt : k < p.given.length := (List.getElem?_eq_some_iff.1 h1).1;rw [List.length_cons] at q1;show s1109_l2 self rec1 p a1 x1 x3 k4 y5 r11 ((k : Int) :: zs t) k15 x = _
  conv => lhs; rw [s1109_l2]
  have hix : ixO p.given (k : Int) = some v := by unfold ixO; rw [decide_eq_true (by omega), cond_true, Int.toNat_natCast]; exact h1
  rw [hix];simp only [bindO];rw [h2];unfold s1109_j2;dsimp only;rw [List.filter_cons]
  cases hc : c k
  ·rw [cond_false];simp only [Bool.false_eq_true, if_false];exact riv_l self rec1 p a1 x1 x3 k4 y5 r11 c t _ x (fun k hk => h k (List.mem_cons_of_mem _ hk)) q0 (by omega)
  ·rw [cond_true, if_pos rfl, wrap_i64 (by unfold I64; omega)];rw [riv_l self rec1 p a1 x1 x3 k4 y5 r11 c t _ (x + 1) (fun k hk => h k (List.mem_cons_of_mem _ hk)) (by omega) (by omega), List.length_cons]
   congr 1; push_cast; omega
theorem zs_len (l : List Nat) : (zs l).length = l.length := by unfold zs; rw [List.length_map]
theorem poss_l1 {S : List S1122} {T : List S1124} {B : Int} {g : List Int} (hg : g.length = T.length) (hT : T.length ≤ 1000) {op : List Nat} (ho : Opn T g op) (self : S1190 → List Int → Option Bool)
  (hself : ∀ (g' : List Int) (op' : List Nat), g'.length = T.length → Opn T g' op' → op'.length < op.length → ∃ b, self ⟨S, T, B, g'⟩ (zs op') = some b ∧ (b = true ↔ Comp S T B g' op')) :
  ∀ (t pre : List Nat) (x1 : List Int) (x3 : Int), pre ++ t = op → ((x3 = -1 ∧ pre = []) ∨ ∃ i ∈ op, x3 = (i : Int) ∧ x1 = zs (freeN S T B g i)) →
   ∃ b, s1109_l1 self ⟨S, T, B, g⟩ (zs op) (zs t) pre.length x1 x3 = some b ∧ (b = true ↔ Comp S T B g op)
 | [], pre, x1, x3, hp, hI => by
  rw [List.append_nil] at hp;subst hp;show ∃ b, s1109_l1 self ⟨S, T, B, g⟩ (zs pre) [] pre.length x1 x3 = some b ∧ _;rw [s1109_l1]
  rcases hI with ⟨rfl, rfl⟩ | ⟨i, hi, rfl, rfl⟩
  ·exact ⟨true, rfl, fun _ => ⟨fun _ => 0, by simp, by simp⟩, fun _ => rfl⟩
  ·rw [decide_eq_false (by omega), cond_false];obtain ⟨L, h1, h2, _⟩ := s1146_ok (zs pre) (fun x0 => s1147 x0 (i : Int));rw [h1];simp only [bindO];rw [h2]
   have hrest : ((zs pre).filter fun y => !(s1147 y (i : Int))) = zs (pre.erase i) := by
    rw [List.Nodup.erase_eq_filter ho.nd i];unfold zs;rw [List.filter_map]
    congr 1
    refine List.filter_congr fun k _ => ?_;unfold s1147;simp only [Function.comp];rw [show decide ((k : Int) = (i : Int)) = decide (k = i) by congr 1; rw [eq_iff_iff]; omega]
    by_cases h : k = i <;> simp [h]
   rw [hrest]
   have hmem : ∀ k, k ∈ pre.erase i ↔ k ∈ pre ∧ k ≠ i := fun k => by
    rw [List.Nodup.mem_erase_iff ho.nd]; exact And.comm
   have hil : i < g.length := by rw [hg]; exact ho.lt i hi
   have hlen : (pre.erase i).length < pre.length := by
    rw [List.length_erase_of_mem hi];have := List.length_pos_of_mem hi; omega
   have hb : ∀ s, ∃ b, s1148 self ((s : Nat) : Int) ⟨S, T, B, g⟩ (i : Int) (zs (pre.erase i)) = some b ∧ (b = true ↔ Comp S T B (g.set i (s : Int)) (pre.erase i)) := by
    intro s;obtain ⟨b, b1, b2⟩ := hself (g.set i (s : Int)) (pre.erase i) (by rw [List.length_set]; exact hg)
     ⟨fun k hk => ho.lt k ((hmem k).1 hk).1, fun k hk => by rw [List.getElem?_set_ne (fun e => ((hmem k).1 hk).2 e.symm)]; exact ho.un k ((hmem k).1 hk).1, ho.nd.erase i⟩ hlen
    refine ⟨b, ?_, b2⟩;unfold s1148;rw [with_eq, if_pos ⟨by omega, by rw [Int.toNat_natCast]; exact hil⟩];simp only [bindO];rw [Int.toNat_natCast, b1]
   have hany := cont_ok (l := zs (freeN S T B g i)) (f := fun x0 => s1148 self x0 ⟨S, T, B, g⟩ (i : Int) (zs (pre.erase i))) (b := fun x => (s1148 self x ⟨S, T, B, g⟩ (i : Int) (zs (pre.erase i))).getD false) (fun x hx => by
    obtain ⟨s, _, rfl⟩ := List.mem_map.1 hx;obtain ⟨b, b1, _⟩ := hb s
    rw [b1]; rfl)
   rw [hany];refine ⟨_, rfl, ?_⟩;rw [comp_pick hi ho.lt hg (ho.un i hi) hmem, List.any_eq_true]
   constructor
   ·rintro ⟨x, hx, hx2⟩;obtain ⟨s, hs, rfl⟩ := List.mem_map.1 hx;obtain ⟨b, b1, b2⟩ := hb s;rw [b1] at hx2;exact ⟨s, freeN_mem.1 hs, b2.1 hx2⟩
   ·rintro ⟨s, hs, hc⟩;obtain ⟨b, b1, b2⟩ := hb s;exact ⟨(s : Int), List.mem_map.2 ⟨s, freeN_mem.2 hs, rfl⟩, by rw [b1]; exact b2.2 hc⟩
 | y :: t, pre, x1, x3, hp, hI => by
  have hy : y ∈ op := by rw [← hp]; simp
  have hyT := ho.lt y hy;show ∃ b, s1109_l1 self ⟨S, T, B, g⟩ (zs op) ((y : Int) :: zs t) pre.length x1 x3 = some b ∧ _;rw [s1109_l1, free_ok ⟨S, T, B, g⟩ y hyT hg, oth_ok ⟨S, T, B, g⟩ y hyT];simp only [bindO];have hoth : ∀ k ∈ othN T B y, k < T.length := fun k hk => (oth_mem.1 hk).1
  have hol : (othN T B y).length ≤ 1000 := by
   have := List.length_filter_le (fun k => decide (k ≠ y) && ovB T B k y) (List.range T.length);rw [List.length_range] at this;unfold othN; omega
  have hc : ∀ k ∈ othN T B y, ∃ v, (⟨S, T, B, g⟩ : S1190).given[k]? = some v ∧ (decide (v < 0) && s144 (zs op) (k : Int)) = (decide ((g.getD k 0) < 0) && decide (k ∈ op)) := by
   intro k hk
   have hkl : k < g.length := by rw [hg]; exact hoth k hk
   refine ⟨g[k], List.getElem?_eq_getElem hkl, ?_⟩;rw [contains_ok, List.getD_eq_getElem?_getD, List.getElem?_eq_getElem hkl]
   congr 1
   congr 1
   rw [eq_iff_iff]; exact zs_mem
  rw [riv_l self _ ⟨S, T, B, g⟩ (zs op) x1 x3 pre.length (y : Int) _ (fun k => decide ((g.getD k 0) < 0) && decide (k ∈ op)) (othN T B y) 0 0 hc (Int.le_refl _) (by omega)];rw [s1109_l2, zs_len, Int.zero_add]
  have hp2 : (pre ++ [y]) ++ t = op := by rw [List.append_assoc]; exact hp
  have hlen : pre.length + 1 = (pre ++ [y]).length := by simp
  by_cases hr : (((othN T B y).filter fun k => decide ((g.getD k 0) < 0) && decide (k ∈ op)).length : Int) < ((freeN S T B g y).length : Int)
  ·rw [decide_eq_true hr, cond_true]
   have hkl : pre.length < op.length := by rw [← hp]; simp
   have hd := (del_eq (zs op) ((pre.length : Nat) : Int) (((pre.length : Nat) : Int) + 1) (by omega) (by omega) (by rw [zs_len]; omega)).2;rw [hd]
   have he : List.take (((pre.length : Nat) : Int)).toNat (zs op) ++ List.drop (((pre.length : Nat) : Int) + 1).toNat (zs op) = zs (pre ++ t) := by
    rw [Int.toNat_natCast, show (((pre.length : Nat) : Int) + 1).toNat = pre.length + 1 by omega, ← hp];unfold zs;rw [← List.map_take, ← List.map_drop, ← List.map_append, List.take_left, hlen, show pre ++ y :: t = (pre ++ [y]) ++ t by simp, List.drop_left]
   rw [he]
   have hnd : (pre ++ y :: t).Nodup := by rw [hp]; exact ho.nd
   have hynp : y ∉ pre := fun h => (List.nodup_append.1 hnd).2.2 y h y (by simp) rfl
   have her : op.erase y = pre ++ t := by
    rw [← hp, List.erase_append_right _ hynp, List.erase_cons_head]
   obtain ⟨b, b1, b2⟩ := hself g (op.erase y) hg (ho.sub (fun i hi => List.mem_of_mem_erase hi) (ho.nd.erase y)) (by
    rw [List.length_erase_of_mem hy]; have := List.length_pos_of_mem hy; omega)
   rw [her] at b1;rw [b1];refine ⟨b, rfl, b2.trans (comp_skip hy ho.nd ho.lt (L := (othN T B y).filter fun k => decide ((g.getD k 0) < 0) && decide (k ∈ op)) (fun k hk hko => ?_) (by omega)).symm⟩;rw [List.mem_filter];refine ⟨hk, ?_⟩;rw [List.getD_eq_getElem?_getD, ho.un k hko]
   simp [hko]
  ·rw [decide_eq_false hr, cond_false];unfold s1109_j1;dsimp only;rw [hlen]
   cases hcc : (decide (x3 < 0)) || (decide (((freeN S T B g y).length : Int) < (x1.length : Int)))
   ·rw [cond_false];refine poss_l1 hg hT ho self hself t (pre ++ [y]) x1 x3 hp2 ?_
    rcases hI with ⟨rfl, _⟩ | h
    ·simp at hcc
    ·exact .inr h
   ·rw [cond_true];exact poss_l1 hg hT ho self hself t (pre ++ [y]) _ _ hp2 (.inr ⟨y, hy, rfl, rfl⟩)
theorem poss_ok {S : List S1122} {T : List S1124} {B : Int} (hT : T.length ≤ 1000) : ∀ (n : Nat) (g : List Int) (op : List Nat), g.length = T.length → Opn T g op → op.length < n → ∃ b, s1109 n ⟨S, T, B, g⟩ (zs op) = some b ∧ (b = true ↔ Comp S T B g op)
 | 0, _, _, _, _, h => by omega
 | n + 1, g, op, hg, ho, h => by
  rw [s1109];exact poss_l1 hg hT ho _ (fun g' op' hg' ho' hl => poss_ok hT n g' op' hg' ho' (by omega)) op [] [] (-1) rfl (.inl ⟨rfl, rfl⟩)
def gb (n : Nat) (b : List Int) : List Int := b ++ List.replicate (n - b.length) (-1)
theorem gb_len {n : Nat} {b : List Int} (h : b.length ≤ n) : (gb n b).length = n := by unfold gb; simp; omega
theorem gb_full {n : Nat} {b : List Int} (h : b.length = n) : gb n b = b := by unfold gb; rw [h, Nat.sub_self]; simp
theorem gb_un {n : Nat} {b : List Int} {i : Nat} (h : b.length ≤ i) (h2 : i < n) : (gb n b)[i]? = some (-1) := by
 unfold gb;rw [List.getElem?_append_right h, List.getElem?_replicate, if_pos (by omega)]
theorem gb_lo {n : Nat} {b : List Int} {i : Nat} (h : i < b.length) : (gb n b)[i]? = b[i]? := by
 unfold gb; rw [List.getElem?_append_left h]
theorem gb_set {n : Nat} {b : List Int} (h : b.length < n) (s : Int) : (gb n b).set b.length s = gb n (b ++ [s]) := by
 unfold gb;obtain ⟨m, hm⟩ : ∃ m, n - b.length = m + 1 := ⟨n - b.length - 1, by omega⟩;rw [hm, List.replicate_succ, List.set_append_right _ _ (Nat.le_refl _), Nat.sub_self, List.set_cons_zero, List.append_assoc]
 congr 2
 rw [List.length_append, List.length_singleton, show n - (b.length + 1) = m by omega]
 rfl
def res (S : List S1122) (T : List S1124) (B : Int) : Nat → List Int → Option (List Int)
 | 0, b => some b
 | k + 1, b => (List.range S.length).findSome? fun s => if frB S T B (gb T.length b) b.length s = true then res S T B k (b ++ [(s : Int)]) else none
theorem opn_gb {T : List S1124} {b : List Int} {k : Nat} (h : b.length + k = T.length) : Opn T (gb T.length b) (List.range' b.length k) :=
 ⟨fun i hi => by have := List.mem_range'_1.1 hi; omega, fun i hi => by have := List.mem_range'_1.1 hi; exact gb_un this.1 (by omega), List.nodup_range'⟩
theorem comp_res {S : List S1122} {T : List S1124} {B : Int} : ∀ (k : Nat) (b : List Int), b.length + k = T.length → (Comp S T B (gb T.length b) (List.range' b.length k) ↔ (res S T B k b).isSome = true)
 | 0, b, h => ⟨fun _ => rfl, fun _ => ⟨fun _ => 0, by simp, by simp⟩⟩
 | k + 1, b, h => by
  have ho := opn_gb h;have hop : List.range' b.length (k + 1) = b.length :: List.range' (b.length + 1) k := List.range'_succ
  rw [comp_pick (rest := List.range' (b.length + 1) k) (i := b.length) (by rw [hop]; exact List.mem_cons_self) ho.lt (gb_len (by omega)) (gb_un (Nat.le_refl _) (by omega)) (fun j => by
   rw [List.mem_range'_1, List.mem_range'_1]; omega)]
  rw [res, List.findSome?_isSome_iff]
  constructor
  ·rintro ⟨s, hs, hc⟩;have hs2 := hs;unfold frB at hs2;rw [Bool.and_eq_true] at hs2;refine ⟨s, List.mem_range.2 (suB_lt hs2.1).1, ?_⟩;rw [if_pos hs, ← comp_res k (b ++ [(s : Int)]) (by simp; omega)];rw [gb_set (by omega)] at hc
   simpa using hc
  ·rintro ⟨s, _, hs⟩
   by_cases hf : frB S T B (gb T.length b) b.length s = true
   ·rw [if_pos hf, ← comp_res k (b ++ [(s : Int)]) (by simp; omega)] at hs;refine ⟨s, hf, ?_⟩;rw [gb_set (by omega)]
    simpa using hs
   ·rw [if_neg hf] at hs; cases hs
theorem find_filter {α β : Type} {p : α → Bool} {f : α → Option β} : ∀ {l : List α}, (l.filter p).findSome? f = l.findSome? fun x => if p x = true then f x else none
 | [] => rfl
 | x :: l => by
  rw [List.filter_cons, List.findSome?_cons]
  by_cases h : p x = true
  ·rw [if_pos h, if_pos h, List.findSome?_cons, find_filter]
  ·rw [if_neg h, if_neg h, find_filter]
def outT (S : List S1122) (T : List S1124) (B : Int) (g : List Int) : Option (List Int) → Bool × S1190
 | some L => (true, ⟨S, T, B, L⟩)
 | none => (false, ⟨S, T, B, g⟩)
theorem take_l1 {S : List S1122} {T : List S1124} {B : Int} (hT : T.length ≤ 1000) (self : List Int → S1190 → Option (Bool × S1190)) (k : Nat) (b : List Int) (hb : b.length + (k + 1) = T.length)
  (hself : ∀ s : Nat, self (zs (List.range' (b.length + 1) k)) ⟨S, T, B, gb T.length (b ++ [(s : Int)])⟩ = some (outT S T B (gb T.length (b ++ [(s : Int)])) (res S T B k (b ++ [(s : Int)])))) :
  ∀ (t : List Nat) (k4 : Nat), s1106_l1 self (zs (List.range' b.length (k + 1))) ⟨S, T, B, gb T.length b⟩ (zs t) k4 = some (outT S T B (gb T.length b) (t.findSome? fun s : Nat => res S T B k (b ++ [(s : Int)])))
 | [], k4 => rfl
 | s :: t, k4 => by
  show s1106_l1 self _ _ ((s : Int) :: zs t) k4 = _
  have hop : zs (List.range' b.length (k + 1)) = (b.length : Int) :: zs (List.range' (b.length + 1) k) := by rw [List.range'_succ]; rfl
  rw [s1106_l1]
  have h0 : ixO (zs (List.range' b.length (k + 1))) 0 = some (b.length : Int) := by rw [hop]; rfl
  have hd : List.drop (Int.toNat 1) (zs (List.range' b.length (k + 1))) = zs (List.range' (b.length + 1) k) := by rw [hop]; rfl
  rw [h0, hd];simp only [bindO];rw [with_eq, if_pos ⟨by omega, by rw [Int.toNat_natCast]; show b.length < (gb T.length b).length; rw [gb_len (by omega)]; omega⟩];simp only [Int.toNat_natCast];rw [gb_set (by omega)]
  have hb2 : (b ++ [(s : Int)]).length + k = T.length := by simp; omega
  have ho := opn_gb hb2
  have hl : (b ++ [(s : Int)]).length = b.length + 1 := by simp
  rw [hl] at ho;obtain ⟨r, r1, r2⟩ := poss_ok (S := S) (B := B) hT ((zs (List.range' b.length (k + 1))).length + 1) (gb T.length (b ++ [(s : Int)])) (List.range' (b.length + 1) k) (gb_len (by omega)) ho (by rw [zs_len, List.length_range', List.length_range']; omega);rw [r1]
  simp only
  have hc := comp_res (S := S) (B := B) k (b ++ [(s : Int)]) hb2;rw [hl] at hc;rw [List.findSome?_cons]
  cases hr : res S T B k (b ++ [(s : Int)]) with
  | some L =>
   have : r = true := r2.2 (hc.2 (by rw [hr]; rfl));rw [this, cond_true, hself s, hr]
   rfl
  | none =>
   have : r = false := by
    cases r with
    | false => rfl
    | true => have := hc.1 (r2.1 rfl); rw [hr] at this; cases this
   rw [this, cond_false];exact take_l1 hT self k b hb hself t _
theorem take_ok {S : List S1122} {T : List S1124} {B : Int} (hT : T.length ≤ 1000) : ∀ (k : Nat) (b : List Int) (fuel : Nat), b.length + k = T.length → k < fuel →
  s1106 fuel (zs (List.range' b.length k)) ⟨S, T, B, gb T.length b⟩ = some (outT S T B (gb T.length b) (res S T B k b))
 | _, _, 0, _, h => by omega
 | 0, b, fuel + 1, hb, _ => by
  rw [s1106, zs_len];simp only [List.range'_zero, List.length_nil];rw [show decide (((0 : Nat) : Int) = 0) = true from rfl, cond_true];show _ = some (true, (⟨S, T, B, b⟩ : S1190));rw [gb_full (by omega)]
 | k + 1, b, fuel + 1, hb, h => by
  rw [s1106, zs_len, List.length_range', decide_eq_false (by omega), cond_false]
  have hop : zs (List.range' b.length (k + 1)) = (b.length : Int) :: zs (List.range' (b.length + 1) k) := by rw [List.range'_succ]; rfl
  have h0 : ixO (zs (List.range' b.length (k + 1))) 0 = some (b.length : Int) := by rw [hop]; rfl
  rw [h0];simp only [bindO];rw [free_ok ⟨S, T, B, gb T.length b⟩ b.length (by show b.length < T.length; omega) (gb_len (by omega))]
  simp only
  rw [take_l1 hT _ k b hb (fun s => by
   have := take_ok hT k (b ++ [(s : Int)]) fuel (by simp; omega) (by omega) (S := S) (B := B);rw [show (b ++ [(s : Int)]).length = b.length + 1 by simp] at this
   exact this)]
  rw [res];unfold freeN;rw [find_filter]
theorem s1194_eq (a b : Int) : s1194 a b = decide (a < b) := by
 have h : ∀ x, s202 x = false := fun x => by unfold s202; simp
 unfold s1194; rw [h]; simp
theorem pres_l (b m z : Int) : ∀ (t : List S1124) (k : Nat) (x : Int), s1124_l1 b m z t k x = s1125_l1 b m z t k x
 | [], k, x => rfl
 | y :: t, k, x => by
  rw [s1124_l1, s1125_l1];unfold s1124_j1 s1125_j1;dsimp only;rw [pres_l b m z t, pres_l b m z t]; rfl
theorem pres_eq (t : List S1124) (b m z : Int) : s1124 t b m z = s1125 t b m z := pres_l b m z t 0 0
theorem lack_l (t : List S1124) (b : Int) (x : S1106) : ∀ (l : List S1122) (k : Nat) (n : Int), s1122_l1 t b x l k n = s1061_l1 t b x l k n
 | [], k, n => by rw [s1122_l1, s1061_l1, pres_eq]
 | y :: l, k, n => by
  rw [s1122_l1, s1061_l1];unfold s1122_j1 s1061_j1;dsimp only;rw [lack_l t b x l, lack_l t b x l]
theorem lack_eq (l : List S1122) (t : List S1124) (b : Int) (x : S1106) : s1122 l t b x = s1061 l t b x := lack_l t b x l 0 0
theorem starts_l : ∀ (t : List S1124) (k : Nat) (x : List Int), s1121_l1 t k x = s1121_l1 [] 0 (x ++ t.map S1124.Start)
 | [], k, x => by rw [List.map_nil, List.append_nil, s1121_l1, s1121_l1]
 | y :: t, k, x => by
  conv => lhs; rw [s1121_l1]
  rw [starts_l t, List.map_cons, List.append_assoc]; rfl
theorem starts_ok (t : List S1124) : ∃ st, s1121 t = some st ∧ st.Pairwise (· ≤ ·) ∧ ∀ x, x ∈ st ↔ x ∈ t.map S1124.Start := by
 have hs : (isort s1194 (t.map S1124.Start)).Pairwise (· ≤ ·) := by
  refine isort_sorted (Rel := fun (x y : Int) => x ≤ y) (fun a b c h k => Int.le_trans h k) (List.pairwise_of_forall fun y x => ⟨fun h => ?_, fun h => ?_⟩)
  ·rw [s1194_eq] at h; have := of_decide_eq_true h; omega
  ·rw [s1194_eq] at h; have := of_decide_eq_false h; omega
 obtain ⟨R, r1, r2, r3⟩ := cp_ok hs;refine ⟨_, ?_, r2, fun x => (r3 x).trans (isort_perm s1194 (t.map S1124.Start)).mem_iff⟩;unfold s1121;rw [starts_l, s1121_l1, List.nil_append, s1160_ok];simp only [bindO];rw [r1]
def top (f : Int → Bool) : Nat → Option Int
 | 0 => none
 | n + 1 => if f ((n : Int) + 1) = true then some ((n : Int) + 1) else top f n
theorem top_rng {f : Int → Bool} : ∀ {n : Nat} {s : Int}, top f n = some s → 1 ≤ s ∧ s ≤ n ∧ f s = true
 | 0, s, h => by cases h
 | n + 1, s, h => by
  rw [top] at h
  split at h
  ·rename_i hf
   cases h
   exact ⟨by omega, by push_cast; omega, hf⟩
  ·have := top_rng h;exact ⟨this.1, by push_cast; omega, this.2.2⟩
theorem cl_l2 (rec1 : Nat → Option (S1106 × Int)) (a0 : List S1122) (a1 : List S1124) (a2 : Int) (k5 : Nat) (y : Int) : ∀ (k : Nat), s1054_l2 rec1 a0 a1 a2 k5 y k (9 - (k : Int)) = match top (fun s => s1061 a0 a1 a2 ⟨y, s⟩) k with | some s => s1054_j1 y s | none => rec1 (k5 + 1)
 | 0 => rfl
 | k + 1 => by
  rw [s1054_l2, top, lack_eq]
  have e1 : (9 : Int) - (9 - ((k + 1 : Nat) : Int)) = (k : Int) + 1 := by push_cast; omega
  have e2 : (9 : Int) - ((k + 1 : Nat) : Int) + 1 = 9 - (k : Int) := by push_cast; omega
  rw [e1, e2]
  cases hc : s1061 a0 a1 a2 ⟨y, (k : Int) + 1⟩
  ·rw [cond_false, if_neg (by simp)]; exact cl_l2 rec1 a0 a1 a2 k5 y k
  ·rw [cond_true, if_pos rfl]
def ff (f : Int → Int → Bool) (st : List Int) : Option (Int × Int) := st.findSome? fun m => (top (f m) 9).map fun s => (m, s)
def fin : Option (Int × Int) → S1106 × Int
 | some (m, s) => (⟨m, s⟩, 0)
 | none => (⟨0, 0⟩, 7)
theorem cl_l1 (a0 : List S1122) (a1 : List S1124) (a2 : Int) : ∀ (st : List Int) (k : Nat), s1054_l1 a0 a1 a2 st k = some (fin (ff (fun m s => s1061 a0 a1 a2 ⟨m, s⟩) st))
 | [], k => rfl
 | y :: st, k => by
  have := cl_l2 (fun k_ => s1054_l1 a0 a1 a2 st k_) a0 a1 a2 k y 9;rw [s1054_l1, show (((9 : Int) - 0).toNat) = 9 from rfl];rw [show (9 : Int) - ((9 : Nat) : Int) = 0 from rfl] at this;rw [this];unfold ff;rw [List.findSome?_cons]
  cases ht : top (fun s => s1061 a0 a1 a2 ⟨y, s⟩) 9 with
  | none => exact cl_l1 a0 a1 a2 st _
  | some s =>
   have := top_rng ht;show s1054_j1 y s = some (fin (some (y, s)));unfold s1054_j1 fin;rw [s1086_ite]
   simp [eqAnd]; omega
def up (y : Int) : Option Int → Bool × Int × Int → Bool × Int × Int
 | none, z => z
 | some s, (f, m, b) => if (!f || decide (y < m) || (decide (y = m) && decide (b < s))) = true then (true, y, s) else (f, m, b)
theorem up_step (y : Int) (o : Option Int) (n : Int) (z : Bool × Int × Int) (ho : ∀ s, o = some s → s < n) :
  up y (some n) z = if (!(up y o z).1 || decide (y < (up y o z).2.1) || (decide (y = (up y o z).2.1) && decide ((up y o z).2.2 < n))) = true then (true, y, n) else up y o z := by
 obtain ⟨f, m, b⟩ := z
 cases o with
 | none => rfl
 | some s =>
  have hs := ho s rfl
  by_cases hc : (!f || decide (y < m) || (decide (y = m) && decide (b < s))) = true
  ·have e : up y (some s) (f, m, b) = (true, y, s) := if_pos hc;rw [e]
   have h2 : (!f || decide (y < m) || (decide (y = m) && decide (b < n))) = true := by
    simp only [Bool.or_eq_true, Bool.and_eq_true, decide_eq_true_eq] at hc ⊢
    rcases hc with hc | hc
    ·exact .inl hc
    ·exact .inr ⟨hc.1, by omega⟩
   have e2 : up y (some n) (f, m, b) = (true, y, n) := if_pos h2;rw [e2, if_pos (by simp [hs])]
  ·have e : up y (some s) (f, m, b) = (f, m, b) := if_neg hc;rw [e]; rfl
theorem rc_l2 (rec1 : Nat → Bool → Int → Int → S1106 × Bool) (a0 : List S1122) (a1 : List S1124) (a2 : Int) (k5 : Nat) (y : S1124) (z : Bool × Int × Int) : ∀ (k j : Nat), j + k = 9 →
  s1060_l2 rec1 a0 a1 a2 k5 y k (up y.Start (top (fun s => s1061 a0 a1 a2 ⟨y.Start, s⟩) j) z).1 ((j : Int) + 1) (up y.Start (top (fun s => s1061 a0 a1 a2 ⟨y.Start, s⟩) j) z).2.1 (up y.Start (top (fun s => s1061 a0 a1 a2 ⟨y.Start, s⟩) j) z).2.2 =
   rec1 (k5 + 1) (up y.Start (top (fun s => s1061 a0 a1 a2 ⟨y.Start, s⟩) 9) z).1 (up y.Start (top (fun s => s1061 a0 a1 a2 ⟨y.Start, s⟩) 9) z).2.1 (up y.Start (top (fun s => s1061 a0 a1 a2 ⟨y.Start, s⟩) 9) z).2.2
 | 0, j, h => by
  have : j = 9 := by omega
  subst this;rw [s1060_l2]
 | k + 1, j, h => by
  have ih := rc_l2 rec1 a0 a1 a2 k5 y z k (j + 1) (by omega);rw [s1060_l2];unfold s1060_j1;dsimp only
  have e : (j : Int) + 1 + 1 = ((j + 1 : Nat) : Int) + 1 := by push_cast; rfl
  rw [e];have ht : top (fun s => s1061 a0 a1 a2 ⟨y.Start, s⟩) (j + 1) = if s1061 a0 a1 a2 ⟨y.Start, (j : Int) + 1⟩ = true then some ((j : Int) + 1) else top (fun s => s1061 a0 a1 a2 ⟨y.Start, s⟩) j := rfl;rw [ht] at ih
  cases hf : s1061 a0 a1 a2 ⟨y.Start, (j : Int) + 1⟩ with
  | false =>
   rw [hf, if_neg (by simp)] at ih;rw [Bool.false_and, cond_false]; exact ih
  | true =>
   rw [hf, if_pos rfl] at ih;rw [up_step y.Start (top (fun s => s1061 a0 a1 a2 ⟨y.Start, s⟩) j) ((j : Int) + 1) z (fun s hs => by have := top_rng hs; omega)] at ih;rw [Bool.true_and];generalize up y.Start (top (fun s => s1061 a0 a1 a2 ⟨y.Start, s⟩) j) z = u at ih ⊢
   cases hc : (!u.1 || decide (y.Start < u.2.1) || (decide (y.Start = u.2.1) && decide (u.2.2 < (j : Int) + 1))) with
   | true =>
    rw [hc, if_pos rfl] at ih;rw [cond_true]; exact ih
   | false =>
    rw [hc, if_neg (by simp)] at ih;rw [cond_false]; exact ih
theorem rc_l1 (a0 : List S1122) (a1 : List S1124) (a2 : Int) : ∀ (t : List S1124) (k : Nat) (z : Bool × Int × Int),
  s1060_l1 a0 a1 a2 t k z.1 z.2.1 z.2.2 = (let w := t.foldl (fun z y => up y.Start (top (fun s => s1061 a0 a1 a2 ⟨y.Start, s⟩) 9) z) z; (⟨w.2.1, w.2.2⟩, w.1))
 | [], k, z => rfl
 | y :: t, k, z => by
  have := rc_l2 (fun k_ z0_ z1_ z2_ => s1060_l1 a0 a1 a2 t k_ z0_ z1_ z2_) a0 a1 a2 k y z 9 0 rfl;rw [s1060_l1, show ((((9 : Int) + 1) - 1).toNat) = 9 from rfl];refine this.trans ?_;exact rc_l1 a0 a1 a2 t _ _
def Bst (f : Int → Int → Bool) (S : List Int) (z : Bool × Int × Int) : Prop :=
 (z = (false, 0, 0) ∧ ∀ m ∈ S, top (f m) 9 = none) ∨ (∃ m s, z = (true, m, s) ∧ m ∈ S ∧ top (f m) 9 = some s ∧ ∀ n ∈ S, top (f n) 9 ≠ none → m ≤ n)
theorem bst_fold (f : Int → Int → Bool) : ∀ (t : List S1124) (S : List Int) (z : Bool × Int × Int), Bst f S z → Bst f (S ++ t.map S1124.Start) (t.foldl (fun z y => up y.Start (top (f y.Start) 9) z) z)
 | [], S, z, h => by simpa using h
 | y :: t, S, z, h => by
  rw [List.map_cons, List.foldl_cons, show S ++ y.Start :: t.map S1124.Start = (S ++ [y.Start]) ++ t.map S1124.Start by simp];refine bst_fold f t _ _ ?_
  cases ht : top (f y.Start) 9 with
  | none =>
   rcases h with ⟨rfl, h⟩ | ⟨m, s, rfl, h1, h2, h3⟩
   ·refine .inl ⟨rfl, fun n hn => ?_⟩
    rcases List.mem_append.1 hn with hn | hn
    ·exact h n hn
    ·rw [List.mem_singleton.1 hn]; exact ht
   ·refine .inr ⟨m, s, rfl, by simp [h1], h2, fun n hn hq => ?_⟩
    rcases List.mem_append.1 hn with hn | hn
    ·exact h3 n hn hq
    ·rw [List.mem_singleton.1 hn] at hq; exact absurd ht hq
  | some s' =>
   rcases h with ⟨rfl, h⟩ | ⟨m, s, rfl, h1, h2, h3⟩
   ·refine .inr ⟨y.Start, s', rfl, by simp, ht, fun n hn hq => ?_⟩
    rcases List.mem_append.1 hn with hn | hn
    ·exact absurd (h n hn) hq
    ·rw [List.mem_singleton.1 hn]; exact Int.le_refl _
   ·by_cases hlt : y.Start < m
    ·have e : up y.Start (some s') (true, m, s) = (true, y.Start, s') := if_pos (by simp [hlt]);rw [e];refine .inr ⟨y.Start, s', rfl, by simp, ht, fun n hn hq => ?_⟩
     rcases List.mem_append.1 hn with hn | hn
     ·have := h3 n hn hq; omega
     ·rw [List.mem_singleton.1 hn]; exact Int.le_refl _
    ·have hno : ¬ (!true || decide (y.Start < m) || (decide (y.Start = m) && decide (s < s'))) = true := by
      simp only [Bool.not_true, Bool.false_or, Bool.or_eq_true, Bool.and_eq_true, decide_eq_true_eq];rintro (h | ⟨rfl, h⟩)
      ·exact hlt h
      ·rw [ht] at h2; cases h2; omega
     have e : up y.Start (some s') (true, m, s) = (true, m, s) := if_neg hno;rw [e];refine .inr ⟨m, s, rfl, by simp [h1], h2, fun n hn hq => ?_⟩
     rcases List.mem_append.1 hn with hn | hn
     ·exact h3 n hn hq
     ·rw [List.mem_singleton.1 hn]; omega
theorem ff_sorted {f : Int → Int → Bool} : ∀ {st : List Int}, st.Pairwise (· ≤ ·) → (ff f st = none ∧ ∀ m ∈ st, top (f m) 9 = none) ∨ (∃ m s, ff f st = some (m, s) ∧ m ∈ st ∧ top (f m) 9 = some s ∧ ∀ n ∈ st, top (f n) 9 ≠ none → m ≤ n)
 | [], _ => .inl ⟨rfl, by simp⟩
 | y :: st, h => by
  rw [List.pairwise_cons] at h;unfold ff;rw [List.findSome?_cons]
  cases ht : top (f y) 9 with
  | some s =>
   refine .inr ⟨y, s, rfl, by simp, ht, fun n hn _ => ?_⟩
   rcases List.mem_cons.1 hn with rfl | hn
   ·exact Int.le_refl _
   ·exact h.1 n hn
  | none =>
   rcases ff_sorted h.2 with ⟨h1, h2⟩ | ⟨m, s, h1, h2, h3, h4⟩
   ·refine .inl ⟨h1, fun m hm => ?_⟩
    rcases List.mem_cons.1 hm with rfl | hm
    ·exact ht
    ·exact h2 m hm
   ·refine .inr ⟨m, s, h1, by simp [h2], h3, fun n hn hq => ?_⟩
    rcases List.mem_cons.1 hn with rfl | hn
    ·exact absurd ht hq
    ·exact h4 n hn hq
theorem clash_eq (a0 : List S1122) (a1 : List S1124) (a2 : Int) (h : s1104 a0 a1 a2 = 0) :
  s1054 a0 a1 a2 = some ((s1060 a0 a1 a2).1, s1038 (!(s1060 a0 a1 a2).2) 7) := by
 obtain ⟨st, h1, h2, h3⟩ := starts_ok a1;unfold s1054 s1060;rw [h, h1];simp only [bindO];rw [cl_l1];have hr := rc_l1 a0 a1 a2 a1 0 (false, 0, 0);have hb := bst_fold (fun m s => s1061 a0 a1 a2 ⟨m, s⟩) a1 [] (false, 0, 0) (.inl ⟨rfl, by simp⟩);rw [List.nil_append] at hb;rw [hr];generalize a1.foldl (fun z y => up y.Start (top (fun s => s1061 a0 a1 a2 ⟨y.Start, s⟩) 9) z) (false, 0, 0) = w at hb ⊢
 rcases hb with ⟨rfl, hb⟩ | ⟨m, s, rfl, b1, b2, b3⟩
 ·rcases ff_sorted (f := fun m s => s1061 a0 a1 a2 ⟨m, s⟩) h2 with ⟨f1, f2⟩ | ⟨m', s', f1, f2, f3, f4⟩
  ·rw [f1]; rfl
  ·rw [hb m' ((h3 m').1 f2)] at f3; cases f3
 ·rcases ff_sorted (f := fun m s => s1061 a0 a1 a2 ⟨m, s⟩) h2 with ⟨f1, f2⟩ | ⟨m', s', f1, f2, f3, f4⟩
  ·rw [f2 m ((h3 m).2 b1)] at b2; cases b2
  ·have q1 := b3 m' ((h3 m').1 f2) (by rw [f3]; simp);have q2 := f4 m ((h3 m).2 b1) (by rw [b2]; simp)
   have : m = m' := by omega
   subst this;rw [b2] at f3; cases f3;rw [f1]; rfl
def vmax (l : List Int) (f : Int → Int) (v : Int) : Int := l.foldl (fun a m => max a (f m)) v
theorem vmax_spec (f : Int → Int) : ∀ (l : List Int) (v : Int), v ≤ vmax l f v ∧ (∀ m ∈ l, f m ≤ vmax l f v) ∧ (vmax l f v = v ∨ ∃ m ∈ l, vmax l f v = f m)
 | [], v => ⟨Int.le_refl _, by simp, .inl rfl⟩
 | y :: l, v => by
  have ih := vmax_spec f l (max v (f y));have e : vmax (y :: l) f v = vmax l f (max v (f y)) := rfl;rw [e];refine ⟨by omega, fun m hm => ?_, ?_⟩
  ·rcases List.mem_cons.1 hm with rfl | hm
   ·omega
   ·exact ih.2.1 m hm
  ·rcases ih.2.2 with h | ⟨m, hm, h⟩
   ·by_cases hv : v ≤ f y
    ·exact .inr ⟨y, by simp, by omega⟩
    ·exact .inl (by omega)
   ·exact .inr ⟨m, by simp [hm], h⟩
theorem vmax_congr {f : Int → Int} {l l' : List Int} (h : ∀ x, x ∈ l ↔ x ∈ l') (v : Int) : vmax l f v = vmax l' f v := by
 have a := vmax_spec f l v;have b := vmax_spec f l' v
 rcases a.2.2 with ha | ⟨m, hm, ha⟩ <;> rcases b.2.2 with hb | ⟨n, hn, hb⟩
 ·omega
 ·have := a.2.1 n ((h n).2 hn); omega
 ·have := b.2.1 m ((h m).1 hm); omega
 ·have := a.2.1 n ((h n).2 hn); have := b.2.1 m ((h m).1 hm); omega
theorem le_l2 (rec1 : Nat → List Int → Option ((Int × Int × Int × Int × Int × Int × Int × Int × Int) × Int)) (t : List S1124) (b : Int) (k5 : Nat) (y : Int) (x1 x2 x3 x4 x5 x6 x7 x8 x9 : Int) :
  s1056_l2 rec1 t b k5 y 9 0 [x1, x2, x3, x4, x5, x6, x7, x8, x9] = rec1 (k5 + 1) [max x1 (s1124 t b y 1), max x2 (s1124 t b y 2), max x3 (s1124 t b y 3), max x4 (s1124 t b y 4), max x5 (s1124 t b y 5), max x6 (s1124 t b y 6), max x7 (s1124 t b y 7), max x8 (s1124 t b y 8), max x9 (s1124 t b y 9)] := rfl
theorem le_l1 (t : List S1124) (b : Int) : ∀ (st : List Int) (k : Nat) (x1 x2 x3 x4 x5 x6 x7 x8 x9 : Int),
  s1056_l1 t b st k [x1, x2, x3, x4, x5, x6, x7, x8, x9] = some ((vmax st (fun y => s1124 t b y 1) x1, vmax st (fun y => s1124 t b y 2) x2, vmax st (fun y => s1124 t b y 3) x3, vmax st (fun y => s1124 t b y 4) x4, vmax st (fun y => s1124 t b y 5) x5, vmax st (fun y => s1124 t b y 6) x6, vmax st (fun y => s1124 t b y 7) x7, vmax st (fun y => s1124 t b y 8) x8, vmax st (fun y => s1124 t b y 9) x9), 0)
 | [], k, x1, x2, x3, x4, x5, x6, x7, x8, x9 => rfl
 | y :: st, k, x1, x2, x3, x4, x5, x6, x7, x8, x9 => by
  rw [s1056_l1, show (((9 : Int) - 0).toNat) = 9 from rfl, le_l2];exact le_l1 t b st _ _ _ _ _ _ _ _ _ _
theorem lr_l2 (rec1 : Int → List Int → Option (Int × Int × Int × Int × Int × Int × Int × Int × Int)) (a0 : List S1124) (b : Int) (i : Nat) : ∀ (t : List S1124) (k : Nat) (x : List Int) (v : Int), x[i]? = some v →
  s1059_l2 rec1 a0 b (i : Int) t k x = rec1 ((i : Int) + 1) (x.set i (vmax (t.map S1124.Start) (fun m => s1125 a0 b m ((i : Int) + 1)) v))
 | [], k, x, v, h => by
  have : x.set i v = x := by
   obtain ⟨h1, h2⟩ := List.getElem?_eq_some_iff.1 h;rw [← h2]; exact List.set_getElem_self h1
  show rec1 ((i : Int) + 1) x = rec1 ((i : Int) + 1) (x.set i v);rw [this]
 | y :: t, k, x, v, h => by
  have hix : ixO x (i : Int) = some v := by
   unfold ixO; rw [decide_eq_true (by omega), cond_true, Int.toNat_natCast]; exact h
  have hlt : i < x.length := (List.getElem?_eq_some_iff.1 h).1;rw [s1059_l2, hix];simp only [bindO];rw [Int.toNat_natCast, lr_l2 rec1 a0 b i t _ _ (max v (s1125 a0 b y.Start ((i : Int) + 1))) (by rw [List.getElem?_set_self hlt]), List.set_set]
  rfl
theorem lr_l1 (a0 : List S1124) (b : Int) (k : Nat) (i : Nat) (x : List Int) (v : Int) (h : x[i]? = some v) :
  s1059_l1 a0 b (k + 1) (i : Int) x = s1059_l1 a0 b k ((i : Int) + 1) (x.set i (vmax (a0.map S1124.Start) (fun m => s1125 a0 b m ((i : Int) + 1)) v)) := by
 rw [s1059_l1, lr_l2 _ a0 b i a0 0 x v h]
theorem least_ref (a0 : List S1124) (b : Int) : s1059 a0 b = some (vmax (a0.map S1124.Start) (fun y => s1125 a0 b y 1) 0, vmax (a0.map S1124.Start) (fun y => s1125 a0 b y 2) 0, vmax (a0.map S1124.Start) (fun y => s1125 a0 b y 3) 0, vmax (a0.map S1124.Start) (fun y => s1125 a0 b y 4) 0, vmax (a0.map S1124.Start) (fun y => s1125 a0 b y 5) 0, vmax (a0.map S1124.Start) (fun y => s1125 a0 b y 6) 0, vmax (a0.map S1124.Start) (fun y => s1125 a0 b y 7) 0, vmax (a0.map S1124.Start) (fun y => s1125 a0 b y 8) 0, vmax (a0.map S1124.Start) (fun y => s1125 a0 b y 9) 0) := by
 unfold s1059;rw [show (((9 : Int) - 0).toNat) = 8 + 1 from rfl];refine (lr_l1 a0 b 8 0 _ 0 rfl).trans ?_;refine (lr_l1 a0 b 7 1 _ 0 rfl).trans ?_;refine (lr_l1 a0 b 6 2 _ 0 rfl).trans ?_;refine (lr_l1 a0 b 5 3 _ 0 rfl).trans ?_;refine (lr_l1 a0 b 4 4 _ 0 rfl).trans ?_;refine (lr_l1 a0 b 3 5 _ 0 rfl).trans ?_;refine (lr_l1 a0 b 2 6 _ 0 rfl).trans ?_;refine (lr_l1 a0 b 1 7 _ 0 rfl).trans ?_;refine (lr_l1 a0 b 0 8 _ 0 rfl).trans ?_
 rfl
theorem least_eq (a0 : List S1124) (b : Int) (h : s1085 [s1025 a0, s1123 b] = 0) : ∃ r, s1059 a0 b = some r ∧ s1056 a0 b = some (r, 0) := by
 obtain ⟨st, h1, h2, h3⟩ := starts_ok a0;refine ⟨_, least_ref a0 b, ?_⟩;unfold s1056;rw [h, h1];simp only [bindO];refine (le_l1 a0 b st 0 0 0 0 0 0 0 0 0 0).trans ?_
 have e : ∀ z, vmax st (fun y => s1124 a0 b y z) 0 = vmax (a0.map S1124.Start) (fun y => s1125 a0 b y z) 0 := fun z => by
  rw [vmax_congr h3]; congr 1; funext y; exact pres_eq a0 b y z
 rw [e, e, e, e, e, e, e, e, e]
theorem as_l2 {a1 : List S1124} {a2 : Int} {a3 : List Int} (ht : ∀ t ∈ a1, TurnOk t) (b0 : 0 ≤ a2) (b1 : a2 ≤ 240) (hl : a3.length = a1.length) (r : Nat → Option Int) (k2 : Nat) (y3 : Int) (yT : S1124) (g3 : a3[k2]? = some y3) (g1 : a1[k2]? = some yT) :
  ∀ (n x : Nat), x + n = k2 → s1110_l2 r a1 a2 a3 k2 y3 n (x : Int) = s1036_l2 r a1 a2 a3 k2 yT n (x : Int) ∧ (s1036_l2 r a1 a2 a3 k2 yT n (x : Int) = some 15 ∨ s1036_l2 r a1 a2 a3 k2 yT n (x : Int) = r (k2 + 1))
 | 0, x, _ => ⟨rfl, .inr rfl⟩
 | n + 1, x, h => by
  have hk : k2 < a1.length := (List.getElem?_eq_some_iff.1 g1).1;have ih := as_l2 ht b0 b1 hl r k2 y3 yT g3 g1 n (x + 1) (by omega);have q1 : ixO a3 (x : Int) = some a3[x] := ixO_at (by omega);have q2 : ixO a1 (x : Int) = some a1[x] := ixO_at (by omega)
  have q3 : ixO a3 (k2 : Int) = some y3 := by unfold ixO; rw [decide_eq_true (by omega), cond_true, Int.toNat_natCast]; exact g3
  have q4 : ixO a1 (k2 : Int) = some yT := by unfold ixO; rw [decide_eq_true (by omega), cond_true, Int.toNat_natCast]; exact g1
  have hT : TurnOk yT := ht _ (List.mem_of_getElem? g1);have hX : TurnOk a1[x] := ht _ (List.getElem_mem _);rw [s1110_l2, s1036_l2, q1, q2, q3, q4];simp only [bindO]
  have e : (x : Int) + 1 = ((x + 1 : Nat) : Int) := by push_cast; rfl
  rw [e]
  cases hc : decide (a3[x] = y3) with
  | false => simp only [cond_false, Bool.false_and]; exact ih
  | true =>
   simp only [cond_true, Bool.true_and];rw [overlap_eq hX hT b0 b1]
   cases hd : s1070 a1[x] yT a2 with
   | true => exact ⟨rfl, .inl rfl⟩
   | false => rw [cond_false]; exact ih
theorem as_l1 {a0 : List S1122} {a1 : List S1124} {a2 : Int} {a3 : List Int} (ht : ∀ t ∈ a1, TurnOk t) (b0 : 0 ≤ a2) (b1 : a2 ≤ 240) (hl : a3.length = a1.length) :
  ∀ (t3 : List Int) (t1 : List S1124) (k : Nat), a3.drop k = t3 → a1.drop k = t1 → ∃ e, s1110_l1 a0 a1 a2 a3 t3 k = some e ∧ s1036_l1 a0 a1 a2 a3 t1 k = some e ∧ (e = 0 → ∀ y ∈ t3, 0 ≤ y ∧ y < (a0.length : Int))
 | [], t1, k, h3, h1 => by
  have : t1 = [] := by
   have q := congrArg List.length h3;have q1 := congrArg List.length h1;rw [List.length_drop] at q q1
   simp at q
   exact List.eq_nil_of_length_eq_zero (by omega)
  subst this;exact ⟨0, rfl, rfl, fun _ => by simp⟩
 | y3 :: t3, t1, k, h3, h1 => by
  have hk : k < a3.length := by
   have q := congrArg List.length h3;rw [List.length_drop] at q; simp at q; omega
  have hk1 : k < a1.length := by omega
  rw [List.drop_eq_getElem_cons hk] at h3;obtain ⟨e3, h3'⟩ := List.cons.inj h3;rw [List.drop_eq_getElem_cons hk1] at h1;subst h1
  have g3 : a3[k]? = some y3 := by rw [List.getElem?_eq_getElem hk, e3]
  have g1 : a1[k]? = some a1[k] := List.getElem?_eq_getElem hk1
  have q3 : ixO a3 (k : Int) = some y3 := by unfold ixO; rw [decide_eq_true (by omega), cond_true, Int.toNat_natCast]; exact g3
  have q4 : ixO a1 (k : Int) = some a1[k] := ixO_at hk1;rw [s1110_l1, s1036_l1, q3, q4];simp only [bindO]
  by_cases c1 : y3 < 0
  ·rw [decide_eq_true c1];exact ⟨10, rfl, rfl, fun h => by cases h⟩
  ·rw [decide_eq_false c1];simp only [Bool.not_false, cond_true, q3, Bool.false_or]
   by_cases c2 : (a0.length : Int) ≤ y3
   ·rw [decide_eq_true c2];exact ⟨10, rfl, rfl, fun h => by cases h⟩
   ·rw [decide_eq_false c2, cond_false, cond_false]
    have q5 : ixO a0 y3 = some (a0[y3.toNat]'(by omega)) := by unfold ixO; rw [decide_eq_true (by omega), cond_true, List.getElem?_eq_getElem (by omega)]
    rw [q5]
    simp only
    rw [suits_eq]
    cases hs : s1068 (a0[y3.toNat]'(by omega)) a1[k] with
    | false => exact ⟨18, rfl, rfl, fun h => by cases h⟩
    | true =>
     rw [Bool.not_true, cond_false, cond_false];obtain ⟨e, i1, i2, i3⟩ := as_l1 (a0 := a0) ht b0 b1 hl t3 (a1.drop (k + 1)) (k + 1) h3' rfl
     have hz : ((((k : Nat) : Int) - 0).toNat) = k := by omega
     rw [hz];have l1 := as_l2 ht b0 b1 hl (fun k_ => s1110_l1 a0 a1 a2 a3 t3 k_) k y3 a1[k] g3 g1 k 0 (by omega);have l2 := as_l2 ht b0 b1 hl (fun k_ => s1036_l1 a0 a1 a2 a3 (a1.drop (k + 1)) k_) k y3 a1[k] g3 g1 k 0 (by omega)
     have l3 : s1036_l2 (fun k_ => s1110_l1 a0 a1 a2 a3 t3 k_) a1 a2 a3 k a1[k] k 0 = s1036_l2 (fun k_ => s1036_l1 a0 a1 a2 a3 (a1.drop (k + 1)) k_) a1 a2 a3 k a1[k] k 0 :=
      as_rec (by show s1110_l1 a0 a1 a2 a3 t3 (k + 1) = _; rw [i1, i2]) k 0
     rw [show ((0 : Nat) : Int) = 0 from rfl] at l1 l2;rw [l1.1, l3]
     rcases l2.2 with h | h
     ·exact ⟨15, h, h, fun h => by cases h⟩
     ·refine ⟨e, by rw [h]; exact i2, by rw [h]; exact i2, fun he y hy => ?_⟩
      rcases List.mem_cons.1 hy with rfl | hy
      ·omega
      ·exact i3 he y hy
where as_rec {a1 : List S1124} {a2 : Int} {a3 : List Int} {r r' : Nat → Option Int} {k2 : Nat} {yT : S1124} (h : r (k2 + 1) = r' (k2 + 1)) : ∀ (n : Nat) (x : Int), s1036_l2 r a1 a2 a3 k2 yT n x = s1036_l2 r' a1 a2 a3 k2 yT n x
 | 0, x => h
 | n + 1, x => by
  rw [s1036_l2, s1036_l2];have e : s1036_l2 r a1 a2 a3 k2 yT n (x + 1) = s1036_l2 r' a1 a2 a3 k2 yT n (x + 1) := as_rec h n (x + 1);rw [e]
theorem assign_eq {a0 : List S1122} {a1 : List S1124} {a2 : Int} {a3 : List Int} (hz : s1104 a0 a1 a2 = 0) :
  ∃ e, s1033 a0 a1 a2 a3 = some e ∧ s1036 a0 a1 a2 a3 = some e ∧ (e = 0 → a3.length = a1.length ∧ ∀ y ∈ a3, 0 ≤ y ∧ y < (a0.length : Int)) := by
 obtain ⟨z1, z2, z3⟩ := ground_zero.1 hz;have ht := (turns_ok z2).2
 have hb : 0 ≤ a2 ∧ a2 ≤ 240 := by
  unfold s1123 at z3; rw [s1088_eq, s90_zero] at z3; exact z3
 unfold s1033 s1110 s1036;rw [hz]
 by_cases hl : a3.length = a1.length
 ·obtain ⟨e, e1, e2, e3⟩ := as_l1 (a0 := a0) ht hb.1 hb.2 hl a3 a1 0 rfl rfl;refine ⟨e, ?_, ?_, fun h => ⟨hl, e3 h⟩⟩
  ·rw [decide_eq_false (by simp), cond_false, decide_eq_false (by omega), cond_false, e1]; rfl
  ·rw [decide_eq_false (by omega), cond_false, e2]
 ·refine ⟨2, ?_, ?_, fun h => by cases h⟩
  ·rw [decide_eq_false (by simp), cond_false, decide_eq_true (by omega), cond_true]; rfl
  ·rw [decide_eq_true (by omega), cond_true]
def okAt (S : List S1122) (T : List S1124) (B : Int) (l : List Int) (i : Nat) : Prop :=
 ∃ s : Nat, l[i]? = some (s : Int) ∧ suB S T i s = true ∧ ∀ j, j < i → l[j]? = some (s : Int) → ovB T B j i = false
theorem chk_l2 {a1 : List S1124} {a2 : Int} {a3 : List Int} (r : Nat → Option Int) (k2 : Nat) (y3 : Int) (g1 : k2 < a1.length) (hl : a3.length = a1.length) :
  ∀ (n x : Nat), x + n = k2 → ((∃ j, x ≤ j ∧ j < k2 ∧ a3[j]? = some y3 ∧ ovB a1 a2 j k2 = true) ∧ s1110_l2 r a1 a2 a3 k2 y3 n (x : Int) = some 15) ∨ ((∀ j, x ≤ j → j < k2 → a3[j]? = some y3 → ovB a1 a2 j k2 = false) ∧ s1110_l2 r a1 a2 a3 k2 y3 n (x : Int) = r (k2 + 1))
 | 0, x, h => .inr ⟨fun j h1 h2 => by omega, rfl⟩
 | n + 1, x, h => by
  have ih := chk_l2 (a2 := a2) r k2 y3 g1 hl n (x + 1) (by omega);have q1 : ixO a3 (x : Int) = some a3[x] := ixO_at (by omega);have q2 : ixO a1 (x : Int) = some a1[x] := ixO_at (by omega);have q4 : ixO a1 (k2 : Int) = some a1[k2] := ixO_at g1;rw [s1110_l2, q1, q2, q4];simp only [bindO]
  have e : (x : Int) + 1 = ((x + 1 : Nat) : Int) := by push_cast; rfl
  rw [e]
  have ho : ovB a1 a2 x k2 = s1130 a1[x] a1[k2] a2 := by unfold ovB; rw [List.getElem?_eq_getElem g1, List.getElem?_eq_getElem (by omega)]
  have hx3 : a3[x]? = some a3[x] := List.getElem?_eq_getElem (by omega)
  have step : (a3[x] = y3 → ovB a1 a2 x k2 = false) → (((∃ j, x ≤ j ∧ j < k2 ∧ a3[j]? = some y3 ∧ ovB a1 a2 j k2 = true) ∧ s1110_l2 r a1 a2 a3 k2 y3 n ((x + 1 : Nat) : Int) = some 15) ∨ ((∀ j, x ≤ j → j < k2 → a3[j]? = some y3 → ovB a1 a2 j k2 = false) ∧ s1110_l2 r a1 a2 a3 k2 y3 n ((x + 1 : Nat) : Int) = r (k2 + 1))) := by
   intro hno
   rcases ih with ⟨⟨j, j1, j2, j3, j4⟩, h2⟩ | ⟨h1, h2⟩
   ·exact .inl ⟨⟨j, by omega, j2, j3, j4⟩, h2⟩
   ·refine .inr ⟨fun j j1 j2 j3 => ?_, h2⟩
    by_cases hj : j = x
    ·subst hj;rw [hx3] at j3;exact hno (Option.some.inj j3)
    ·exact h1 j (by omega) j2 j3
  by_cases hc : a3[x] = y3
  ·rw [decide_eq_true hc];simp only [cond_true, Bool.true_and]
   cases hd : s1130 a1[x] a1[k2] a2
   ·rw [cond_false]
    exact step fun _ => by rw [ho, hd]
   ·rw [cond_true];exact .inl ⟨⟨x, Nat.le_refl _, by omega, by rw [hx3, hc], by rw [ho, hd]⟩, rfl⟩
  ·rw [decide_eq_false hc];simp only [cond_false, Bool.false_and];exact step fun h => absurd h hc
theorem chk_l1 {a0 : List S1122} {a1 : List S1124} {a2 : Int} {a3 : List Int} (hl : a3.length = a1.length) :
  ∀ (t3 : List Int) (k : Nat), a3.drop k = t3 → ∃ e, s1110_l1 a0 a1 a2 a3 t3 k = some e ∧ (e = 0 ↔ ∀ i, k ≤ i → i < a3.length → okAt a0 a1 a2 a3 i)
 | [], k, h3 => by
  have q := congrArg List.length h3;rw [List.length_drop] at q; simp at q;exact ⟨0, rfl, fun _ i h1 h2 => by omega, fun _ => rfl⟩
 | y3 :: t3, k, h3 => by
  have hk : k < a3.length := by
   have q := congrArg List.length h3;rw [List.length_drop] at q; simp at q; omega
  have hk1 : k < a1.length := by omega
  rw [List.drop_eq_getElem_cons hk] at h3;obtain ⟨e3, h3'⟩ := List.cons.inj h3
  have g3 : a3[k]? = some y3 := by rw [List.getElem?_eq_getElem hk, e3]
  rw [s1110_l1]
  by_cases c1 : y3 < 0
  ·rw [decide_eq_true c1];refine ⟨10, rfl, fun h => (by cases h), fun h => ?_⟩;obtain ⟨s, s1, _⟩ := h k (Nat.le_refl _) hk;rw [g3] at s1; cases s1; omega
  ·rw [decide_eq_false c1, Bool.false_or]
   by_cases c2 : (a0.length : Int) ≤ y3
   ·rw [decide_eq_true c2];refine ⟨10, rfl, fun h => (by cases h), fun h => ?_⟩;obtain ⟨s, s1, s2, _⟩ := h k (Nat.le_refl _) hk;rw [g3] at s1; cases s1;have := (suB_lt s2).1; omega
   ·rw [decide_eq_false c2, cond_false, ixO_at hk1]
    have hy : y3.toNat < a0.length := by omega
    have q5 : ixO a0 y3 = some a0[y3.toNat] := by unfold ixO; rw [decide_eq_true (by omega), cond_true, List.getElem?_eq_getElem hy]
    rw [q5];simp only [bindO]
    have hsu : suB a0 a1 k y3.toNat = s1128 a1[k] a0[y3.toNat] := by unfold suB; rw [List.getElem?_eq_getElem hk1, List.getElem?_eq_getElem hy]
    have hcast : ((y3.toNat : Nat) : Int) = y3 := Int.toNat_of_nonneg (by omega)
    cases hs : s1128 a1[k] a0[y3.toNat]
    ·refine ⟨18, rfl, fun h => (by cases h), fun h => ?_⟩;obtain ⟨s, s1, s2, _⟩ := h k (Nat.le_refl _) hk;rw [g3] at s1
     have : s = y3.toNat := by have := Option.some.inj s1; omega
     subst this;rw [hsu, hs] at s2; cases s2
    ·rw [Bool.not_true, cond_false];obtain ⟨e, i1, i2⟩ := chk_l1 (a0 := a0) (a2 := a2) hl t3 (k + 1) h3'
     have hz : ((((k : Nat) : Int) - 0).toNat) = k := by omega
     rw [hz]
     rcases chk_l2 (a2 := a2) (fun k_ => s1110_l1 a0 a1 a2 a3 t3 k_) k y3 hk1 hl k 0 (by omega) with ⟨⟨j, _, j2, j3, j4⟩, h2⟩ | ⟨h1, h2⟩
     ·refine ⟨15, h2, fun h => (by cases h), fun h => ?_⟩;obtain ⟨s, s1, _, s3⟩ := h k (Nat.le_refl _) hk;rw [g3] at s1; cases s1;rw [s3 j j2 j3] at j4; cases j4
     ·refine ⟨e, h2.trans i1, i2.trans ⟨fun h i hi hi2 => ?_, fun h i hi hi2 => h i (by omega) hi2⟩⟩
      by_cases hik : i = k
      ·subst hik;exact ⟨y3.toNat, by rw [g3, hcast], by rw [hsu, hs], fun j hj h5 => h1 j (Nat.zero_le _) hj (by rw [h5, hcast])⟩
      ·exact h i (by omega) hi2
theorem chk_ok {S : List S1122} {T : List S1124} {B : Int} {l : List Int} (ht : ∀ t ∈ T, TurnOk t) (b0 : 0 ≤ B) (b1 : B ≤ 240) (hl : l.length = T.length) : ∃ e, s1110 S T B l = some e ∧ s1036 S T B l = some e ∧ (e = 0 ↔ ∀ i, i < l.length → okAt S T B l i) := by
 obtain ⟨e, e1, e2, _⟩ := as_l1 (a0 := S) ht b0 b1 hl l T 0 rfl rfl;obtain ⟨e', f1, f2⟩ := chk_l1 (a0 := S) (a1 := T) (a2 := B) (a3 := l) hl l 0 rfl;rw [e1] at f1; cases f1;refine ⟨e, ?_, ?_, f2.trans ⟨fun h i hi => h i (Nat.zero_le _) hi, fun h i _ hi => h i hi⟩⟩
 ·unfold s1110; rw [decide_eq_false (by omega), cond_false, e1]
 ·unfold s1036; rw [decide_eq_false (by omega), cond_false, e2]
theorem okAt_app {S : List S1122} {T : List S1124} {B : Int} {l : List Int} {x : Int} {i : Nat} (hi : i < l.length) : okAt S T B (l ++ [x]) i ↔ okAt S T B l i := by
 have h : ∀ j, j ≤ i → (l ++ [x])[j]? = l[j]? := fun j hj => by rw [List.getElem?_append_left (by omega)]
 unfold okAt
 constructor
 ·rintro ⟨s, s1, s2, s3⟩;exact ⟨s, by rw [← h i (Nat.le_refl _)]; exact s1, s2, fun j hj hh => s3 j hj (by rw [h j (by omega)]; exact hh)⟩
 ·rintro ⟨s, s1, s2, s3⟩;exact ⟨s, by rw [h i (Nat.le_refl _)]; exact s1, s2, fun j hj hh => s3 j hj (by rw [← h j (by omega)]; exact hh)⟩
theorem okAt_fr {S : List S1122} {T : List S1124} {B : Int} {b : List Int} {s : Nat} (hb : b.length < T.length) : okAt S T B (b ++ [(s : Int)]) b.length ↔ frB S T B (gb T.length b) b.length s = true := by
 unfold okAt frB;rw [Bool.and_eq_true]
 have hl : (b ++ [(s : Int)])[b.length]? = some (s : Int) := by simp
 have htk : takB T B (gb T.length b) b.length s = false ↔ ∀ j, j < b.length → b[j]? = some (s : Int) → ovB T B j b.length = false := by
  unfold takB;rw [List.any_eq_false]
  constructor
  ·intro h j hj hh
   cases ho : ovB T B j b.length
   ·rfl
   ·have := h j (oth_mem.2 ⟨by omega, by omega, ho⟩);rw [gb_lo hj] at this
    simp [hh] at this
  ·intro h j hj;obtain ⟨j1, j2, j3⟩ := oth_mem.1 hj
   by_cases hjb : j < b.length
   ·rw [gb_lo hjb];simp only [decide_eq_true_eq];intro hh;rw [h j hjb hh] at j3; cases j3
   ·rw [gb_un (by omega) j1];simp only [decide_eq_true_eq, Option.some.injEq]
    omega
 constructor
 ·rintro ⟨t, t1, t2, t3⟩;rw [hl] at t1
  have : t = s := by have := Option.some.inj t1; omega
  subst this;refine ⟨t2, ?_⟩;rw [Bool.not_eq_true', htk];exact fun j hj hh => t3 j hj (by rw [List.getElem?_append_left hj]; exact hh)
 ·rintro ⟨h1, h2⟩;rw [Bool.not_eq_true', htk] at h2;exact ⟨s, hl, h1, fun j hj hh => h2 j hj (by rw [List.getElem?_append_left hj] at hh; exact hh)⟩
def Vld (S : List S1122) (T : List S1124) (B : Int) (b : List Int) : Prop := ∀ i, i < b.length → okAt S T B b i
theorem vld_app {S : List S1122} {T : List S1124} {B : Int} {b : List Int} {s : Nat} (hb : b.length < T.length) : Vld S T B (b ++ [(s : Int)]) ↔ Vld S T B b ∧ frB S T B (gb T.length b) b.length s = true := by
 rw [← okAt_fr hb];unfold Vld
 constructor
 ·intro h;exact ⟨fun i hi => (okAt_app hi).1 (h i (by simp; omega)), h _ (by simp)⟩
 ·rintro ⟨h1, h2⟩ i hi
  by_cases hib : i < b.length
  ·exact (okAt_app hib).2 (h1 i hib)
  ·have : i = b.length := by simp at hi; omega
   rw [this]; exact h2
def dur (b : Int) (t : S1124) : Int := t.End + b - t.Start
def bz (b i : Int) : List Int → List S1124 → Int
 | y :: l, t :: ts => (if y = i then dur b t else 0) + bz b i l ts
 | _, _ => 0
theorem dur_rng {b : Int} {t : S1124} (h : TurnOk t) (b0 : 0 ≤ b) (b1 : b ≤ 240) : 0 ≤ dur b t ∧ dur b t ≤ 150000000 := by
 have := h.s0; have := h.se; have := h.e1;unfold dur; omega
theorem bz_rng {b i : Int} (b0 : 0 ≤ b) (b1 : b ≤ 240) : ∀ (l : List Int) (ts : List S1124), (∀ t ∈ ts, TurnOk t) → 0 ≤ bz b i l ts ∧ bz b i l ts ≤ 150000000 * (l.length : Int)
 | [], _, _ => by simp [bz]
 | y :: l, [], _ => by simp [bz]; omega
 | y :: l, t :: ts, h => by
  have ih := bz_rng (i := i) b0 b1 l ts fun t ht => h t (List.mem_cons_of_mem _ ht);have := dur_rng (h t List.mem_cons_self) b0 b1;rw [bz, List.length_cons]
  split <;> omega
def addX (b : Int) (x : List Int) (l : List Int) (ts : List S1124) : List Int := (List.range x.length).map fun i => x.getD i 0 + bz b (i : Int) l ts
theorem addX_nil (b : Int) (x : List Int) (ts : List S1124) : addX b x [] ts = x := by
 unfold addX;refine List.ext_getElem (by simp) fun i h1 h2 => ?_;rw [List.getElem_map, List.getElem_range];simp only [bz, Int.add_zero];rw [List.getD_eq_getElem?_getD, List.getElem?_eq_getElem h2]; rfl
theorem pb_l1 {a1 : List S1124} {b : Int} (ht : ∀ t ∈ a1, TurnOk t) (b0 : 0 ≤ b) (b1 : b ≤ 240) : ∀ (t3 : List Int) (t1 : List S1124) (k : Nat) (x : List Int) (M : Int), a1.drop k = t1 → t3.length ≤ t1.length → (∀ y ∈ t3, 0 ≤ y ∧ y < (x.length : Int)) →
  (∀ v ∈ x, 0 ≤ v ∧ v ≤ M) → 0 ≤ M → M + 150000000 * (t3.length : Int) ≤ 1000000000000 → s1057_l1 a1 b t3 k x = some (addX b x t3 t1, 0)
 | [], t1, k, x, M, _, _, _, _, _, _ => by rw [addX_nil, s1057_l1]
 | y :: t3, [], k, x, M, _, h, _, _, _, _ => by simp at h
 | y :: t3, t :: t1, k, x, M, hd, h, hy, hx, m0, m1 => by
  have hk : k < a1.length := by
   have q := congrArg List.length hd;rw [List.length_drop] at q; simp at q; omega
  rw [List.drop_eq_getElem_cons hk] at hd;obtain ⟨e1, e2⟩ := List.cons.inj hd;have hyy := hy y List.mem_cons_self
  have hyl : y.toNat < x.length := by omega
  have q1 : ixO x y = some x[y.toNat] := by unfold ixO; rw [decide_eq_true (by omega), cond_true, List.getElem?_eq_getElem hyl]
  have q2 : ixO a1 (k : Int) = some t := by rw [ixO_at hk, e1]
  have hto : TurnOk t := by rw [← e1]; exact ht _ (List.getElem_mem _)
  have hdur := dur_rng hto b0 b1;have hv := hx _ (List.getElem_mem hyl);have s0 := hto.s0; have s1 := hto.se; have s2 := hto.e1;rw [List.length_cons] at m1;rw [s1057_l1, q1, q2];simp only [bindO];rw [wrap_i64 (n := t.End + b) (by unfold I64; omega), wrap_i64 (n := t.End + b - t.Start) (by unfold I64; omega), wrap_i64 (by unfold I64; omega)]
  have hnew : ∀ v ∈ x.set y.toNat (x[y.toNat] + (t.End + b - t.Start)), 0 ≤ v ∧ v ≤ M + 150000000 := fun v hv' => by
   rcases List.mem_or_eq_of_mem_set hv' with h | rfl
   ·have := hx v h; omega
   ·unfold dur at hdur; omega
  rw [pb_l1 ht b0 b1 t3 t1 (k + 1) _ (M + 150000000) e2 (by simpa using h) (fun z hz => by rw [List.length_set]; exact hy z (List.mem_cons_of_mem _ hz)) hnew (by omega) (by omega)]
  congr 2
  unfold addX;rw [List.length_set];refine List.map_congr_left fun i hi => ?_;have hi := List.mem_range.1 hi;rw [bz, List.getD_eq_getElem?_getD, List.getD_eq_getElem?_getD, List.getElem?_set]
  by_cases hc : y.toNat = i
  ·have hc2 : y = (i : Int) := by omega
   subst hc;rw [if_pos rfl, if_pos hyl, if_pos hc2, List.getElem?_eq_getElem hyl];simp only [Option.getD_some];unfold dur
   omega
  ·have hc2 : ¬ y = (i : Int) := by omega
   rw [if_neg hc, if_neg hc2]; omega
theorem rb_l2 {b : Int} {a3 : List Int} (b0 : 0 ≤ b) (b1 : b ≤ 240) (r : Nat → List Int → Option (List Int)) (x1 : List Int) (k3 : Nat) : ∀ (t : List S1124) (t3 : List Int) (k8 : Nat) (x6 : Int), a3.drop k8 = t3 → t3.length = t.length → (∀ y ∈ t, TurnOk y) → 0 ≤ x6 → x6 + 150000000 * (t.length : Int) ≤ 1000000000000 →
  s1062_l2 r b a3 x1 k3 t k8 x6 = r (k3 + 1) (x1 ++ [x6 + bz b (k3 : Int) t3 t])
 | [], t3, k8, x6, _, h, _, _, _ => by
  have : t3 = [] := List.eq_nil_of_length_eq_zero h;subst this;rw [bz, Int.add_zero, s1062_l2]
  simp
 | y :: t, [], k8, x6, _, h, _, _, _ => by simp at h
 | y :: t, z :: t3, k8, x6, hd, h, ht, m0, m1 => by
  have hk : k8 < a3.length := by
   have q := congrArg List.length hd;rw [List.length_drop] at q; simp at q; omega
  rw [List.drop_eq_getElem_cons hk] at hd;obtain ⟨e1, e2⟩ := List.cons.inj hd;have hto := ht y List.mem_cons_self;have hdur := dur_rng hto b0 b1;have s0 := hto.s0; have s1 := hto.se; have s2 := hto.e1;rw [List.length_cons] at m1;rw [s1062_l2, ixO_at hk, e1];simp only [bindO];unfold s1062_j1;dsimp only;have hrec := fun x h0 h1 => rb_l2 b0 b1 r x1 k3 t t3 (k8 + 1) x e2 (by simpa using h) (fun y hy => ht y (List.mem_cons_of_mem _ hy)) h0 h1
  by_cases hc : z = (k3 : Int)
  ·rw [decide_eq_true hc, cond_true, wrap_i64 (n := x6 + y.End) (by unfold I64; omega), wrap_i64 (n := x6 + y.End + b) (by unfold I64; omega), wrap_i64 (by unfold I64; omega)];rw [hrec _ (by unfold dur at hdur; omega) (by unfold dur at hdur; omega), bz, if_pos hc];unfold dur;rw [show x6 + y.End + b - y.Start + bz b (k3 : Int) t3 t = x6 + (y.End + b - y.Start + bz b (k3 : Int) t3 t) by omega]
  ·rw [decide_eq_false hc, cond_false, hrec _ m0 (by omega), bz, if_neg hc, Int.zero_add]
theorem rb_l1 {a1 : List S1124} {b : Int} {a3 : List Int} (ht : ∀ t ∈ a1, TurnOk t) (b0 : 0 ≤ b) (b1 : b ≤ 240) (hl : a3.length = a1.length) (h12 : a3.length ≤ 1000) : ∀ (t : List S1122) (k3 : Nat) (x1 : List Int), s1062_l1 a1 b a3 t k3 x1 = some (x1 ++ (List.range' k3 t.length).map (fun i : Nat => bz b (i : Int) a3 a1))
 | [], k3, x1 => by rw [s1062_l1]; simp
 | y :: t, k3, x1 => by
  rw [s1062_l1, rb_l2 b0 b1 _ x1 k3 a1 a3 0 0 rfl hl ht (Int.le_refl _) (by omega), rb_l1 ht b0 b1 hl h12 t, Int.zero_add, List.length_cons, List.range'_succ, List.map_cons, List.append_assoc]
  rfl
theorem busy_eq {a0 : List S1122} {a1 : List S1124} {a2 : Int} {a3 : List Int} (hz : s1104 a0 a1 a2 = 0) (h12 : a3.length ≤ 1000) :
  ∃ e, s1036 a0 a1 a2 a3 = some e ∧ (e ≠ 0 → s1057 a0 a1 a2 a3 = some ([], e)) ∧ (e = 0 → ∃ L, s1057 a0 a1 a2 a3 = some (L, 0) ∧ s1062 a0 a1 a2 a3 = some L) := by
 obtain ⟨e, e1, e2, e3⟩ := assign_eq (a3 := a3) hz;refine ⟨e, e2, fun h => ?_, fun h => ?_⟩
 ·unfold s1057;rw [e1];simp only [bindO];rw [decide_eq_true h, cond_true]
 ·subst h;obtain ⟨hl, hy⟩ := e3 rfl;obtain ⟨z1, z2, z3⟩ := ground_zero.1 hz;have ht := (turns_ok z2).2
  have hb : 0 ≤ a2 ∧ a2 ≤ 240 := by
   unfold s1123 at z3; rw [s1088_eq, s90_zero] at z3; exact z3
  refine ⟨addX a2 (List.replicate a0.length 0) a3 a1, ?_, ?_⟩
  ·unfold s1057;rw [e1];simp only [bindO];rw [decide_eq_false (by simp), cond_false];exact pb_l1 ht hb.1 hb.2 a3 a1 0 _ 0 rfl (by omega) (by rw [List.length_replicate]; exact hy) (fun v hv => by rw [List.eq_of_mem_replicate hv]; omega) (by decide) (by omega)
  ·unfold s1062;rw [rb_l1 ht hb.1 hb.2 hl h12 a0 0 [], List.nil_append]
   congr 1
   unfold addX;rw [List.length_replicate, List.range_eq_range'];refine List.map_congr_left fun i hi => ?_;have hi := List.mem_range'_1.1 hi;rw [List.getD_eq_getElem?_getD, List.getElem?_replicate, if_pos (by omega)]
   simp
theorem rep_run {a1 : Int} : ∀ (k : Nat) (x1 : Int) (x2 : List Int), x2.length = Int.toNat a1 → 0 ≤ x1 → x1 ≤ (Int.toNat a1 : Int) → (0 < x1 ∨ Int.toNat a1 = 0) → ((Int.toNat a1 : Int) - x1).toNat < k → ∃ R, s1105_l1 a1 k x1 x2 = some R
 | 0, _, _, _, _, _, _, h => by omega
 | k + 1, x1, x2, q1, q2, q3, q4, q5 => by
  rw [s1105_l1]
  by_cases hc : x1 < (Int.toNat a1 : Int)
  ·rw [decide_eq_true hc, cond_true]
   have hlt : (List.take (Int.toNat x1) x2).length = x1.toNat := by rw [List.length_take]; omega
   have hl := cpy_len (s := List.take (Int.toNat x1) x2) q1 (show x1.toNat < Int.toNat a1 by omega);rw [hlt] at *;exact rep_run k _ _ hl (by omega) (by omega) (by omega) (by omega)
  ·rw [decide_eq_false hc, cond_false];exact ⟨_, rfl⟩
theorem rep_eq (n : Nat) : s1105 [-1] (n : Int) = some (List.replicate n (-1)) := by
 have h : ∃ R, s1105 [-1] (n : Int) = some R := by
  unfold s1105 s1105_j2 s1105_j1;refine rep_run _ _ _ (by rw [copyL_len, List.length_replicate]) (by omega) ?_ ?_ (by omega)
  ·simp only [List.length_replicate, List.length_cons, List.length_nil]; omega
  ·simp only [List.length_replicate, List.length_cons, List.length_nil]; omega
 obtain ⟨R, hR⟩ := h;rw [hR, rep_ok hR, Int.toNat_natCast]
theorem asg_l1 (a0 : List S1122) (a1 : List S1124) (a2 : Int) (r1 : List Int) : ∀ (t : List S1124) (k : Nat) (x : List Nat), s1032_l1 a0 a1 a2 r1 t k (zs x) = s1032_l1 a0 a1 a2 r1 [] 0 (zs (x ++ List.range' k t.length))
 | [], k, x => by simp only [List.length_nil, List.range'_zero, List.append_nil]; rw [s1032_l1, s1032_l1]
 | y :: t, k, x => by
  have e : zs x ++ [((k : Nat) : Int)] = zs (x ++ [k]) := by unfold zs; rw [List.map_append]; rfl
  conv => lhs; rw [s1032_l1]
  rw [e, asg_l1 a0 a1 a2 r1 t, List.length_cons, List.range'_succ, List.append_assoc]
  rfl
def outA : Option (List Int) → List Int × Int
 | some L => (L, 0)
 | none => ([], 23)
theorem asg_ok {a0 : List S1122} {a1 : List S1124} {a2 : Int} (hz : s1104 a0 a1 a2 = 0) (h8 : a1.length ≤ 8) : s1032 a0 a1 a2 = some (outA (res a0 a1 a2 a1.length [])) := by
 unfold s1032;rw [hz]
 have hchk : s1085 [0, s1086 (decide (8 < (a1.length : Int))) 22] = 0 := by
  rw [decide_eq_false (by omega)]; rfl
 rw [hchk, show decide ((0 : Int) ≠ 0) = false from rfl, cond_false, rep_eq];simp only [bindO];have := asg_l1 a0 a1 a2 (List.replicate a1.length (-1)) a1 0 [];refine this.trans ?_;rw [s1032_l1, zs_len, List.nil_append, List.length_range'];have ht := take_ok (S := a0) (T := a1) (B := a2) (by omega) a1.length [] (a1.length + 1) (by simp) (by omega);rw [show gb a1.length [] = List.replicate a1.length (-1) from rfl, show ([] : List Int).length = 0 from rfl] at ht;rw [ht];simp only [bindO]
 cases res a0 a1 a2 a1.length [] <;> rfl
theorem res_spec {S : List S1122} {T : List S1124} {B : Int} : ∀ (k : Nat) (b L : List Int), b.length + k = T.length → Vld S T B b → res S T B k b = some L → L.length = T.length ∧ Vld S T B L ∧ L.take b.length = b
 | 0, b, L, hb, hv, h => by
  cases h
  exact ⟨by omega, hv, by rw [List.take_length]⟩
 | k + 1, b, L, hb, hv, h => by
  rw [res] at h;obtain ⟨s, _, hs⟩ := List.exists_of_findSome?_eq_some h
  by_cases hf : frB S T B (gb T.length b) b.length s = true
  ·rw [if_pos hf] at hs;obtain ⟨r1, r2, r3⟩ := res_spec k (b ++ [(s : Int)]) L (by simp; omega) ((vld_app (by omega)).2 ⟨hv, hf⟩) hs;refine ⟨r1, r2, ?_⟩;have := congrArg (List.take b.length) r3;rw [List.take_take, List.take_left, List.length_append, List.length_singleton, Nat.min_eq_left (by omega)] at this;exact this
  ·rw [if_neg hf] at hs; cases hs
def prB (T : List S1124) (B : Int) (m z : Int) (i : Nat) : Bool := match T[i]? with | some t => decide (z ≤ t.Size) && s1131 t B m | none => false
def actN (T : List S1124) (B : Int) (m z : Int) : List Nat := (List.range T.length).filter fun i => prB T B m z i
def szB (S : List S1122) (z : Int) (s : Nat) : Bool := match S[s]? with | some x => decide (z ≤ x.Size) | none => false
def stN (S : List S1122) (z : Int) : List Nat := (List.range S.length).filter fun s => szB S z s
theorem there_l {T : List S1124} {B m z : Int} : ∀ (t : List S1124) (k k2 : Nat) (x : Int), T.drop k = t → 0 ≤ x → x + (t.length : Int) ≤ 100000 → s1125_l1 B m z t k2 x = x + (((List.range' k t.length).filter fun i => prB T B m z i).length : Int)
 | [], k, k2, x, _, _, _ => by simp [s1125_l1]
 | y :: t, k, k2, x, hd, q0, q1 => by
  have hk : k < T.length := by
   have q := congrArg List.length hd;rw [List.length_drop] at q; simp at q; omega
  rw [List.drop_eq_getElem_cons hk] at hd;obtain ⟨e1, e2⟩ := List.cons.inj hd;rw [List.length_cons] at q1;rw [s1125_l1];unfold s1125_j1;dsimp only;rw [List.length_cons, List.range'_succ, List.filter_cons]
  have hp : prB T B m z k = (decide (z ≤ y.Size) && s1131 y B m) := by unfold prB; rw [List.getElem?_eq_getElem hk, e1]
  rw [hp]
  cases hc : decide (z ≤ y.Size) && s1131 y B m
  ·rw [cond_false];simp only [Bool.false_eq_true, if_false];exact there_l t (k + 1) _ x e2 q0 (by omega)
  ·rw [cond_true, if_pos rfl, wrap_i64 (by unfold I64; omega), there_l t (k + 1) _ (x + 1) e2 (by omega) (by omega), List.length_cons]
   push_cast; omega
theorem there_ok {T : List S1124} (B m z : Int) (h : T.length ≤ 1000) : s1125 T B m z = ((actN T B m z).length : Int) := by
 unfold s1125 actN;rw [there_l T 0 0 0 rfl (Int.le_refl _) (by omega), Int.zero_add, List.range_eq_range']
theorem size_l {S : List S1122} {T : List S1124} {B : Int} {x : S1106} : ∀ (t : List S1122) (k k2 : Nat) (n : Int), S.drop k = t → 0 ≤ n → n + (t.length : Int) ≤ 100000 → s1061_l1 T B x t k2 n = decide (n + (((List.range' k t.length).filter fun s => szB S x.Size s).length : Int) < s1125 T B x.Moment x.Size)
 | [], k, k2, n, _, _, _ => by simp [s1061_l1]
 | y :: t, k, k2, n, hd, q0, q1 => by
  have hk : k < S.length := by
   have q := congrArg List.length hd;rw [List.length_drop] at q; simp at q; omega
  rw [List.drop_eq_getElem_cons hk] at hd;obtain ⟨e1, e2⟩ := List.cons.inj hd;rw [List.length_cons] at q1;rw [s1061_l1];unfold s1061_j1;dsimp only;rw [List.length_cons, List.range'_succ, List.filter_cons]
  have hp : szB S x.Size k = decide (x.Size ≤ y.Size) := by unfold szB; rw [List.getElem?_eq_getElem hk, e1]
  rw [hp]
  cases hc : decide (x.Size ≤ y.Size)
  ·rw [cond_false];simp only [Bool.false_eq_true, if_false];exact size_l t (k + 1) _ n e2 q0 (by omega)
  ·rw [cond_true, if_pos rfl, wrap_i64 (by unfold I64; omega), size_l t (k + 1) _ (n + 1) e2 (by omega) (by omega), List.length_cons]
   congr 1
   rw [eq_iff_iff]; push_cast; omega
theorem lack_cnt {S : List S1122} {T : List S1124} (B m z : Int) (hS : S.length ≤ 1000) (hT : T.length ≤ 1000) : s1061 S T B ⟨m, z⟩ = decide ((stN S z).length < (actN T B m z).length) := by
 unfold s1061 stN;rw [size_l S 0 0 0 rfl (Int.le_refl _) (by omega), Int.zero_add, ← List.range_eq_range', there_ok B m z hT]
 congr 1
 rw [eq_iff_iff];show (((List.range S.length).filter fun s => szB S z s).length : Int) < _ ↔ _
 omega
theorem ov_there {T : List S1124} {B m z : Int} (ht : ∀ t ∈ T, TurnOk t) (b0 : 0 ≤ B) (b1 : B ≤ 240) {i k : Nat} (hi : prB T B m z i = true) (hk : prB T B m z k = true) : ovB T B i k = true := by
 unfold prB at hi hk;unfold ovB
 cases h1 : T[i]? with
 | none => rw [h1] at hi; cases hi
 | some a =>
  cases h2 : T[k]? with
  | none => rw [h2] at hk; cases hk
  | some c =>
   rw [h1] at hi; rw [h2] at hk;have ha := ht a (List.mem_of_getElem? h1);have hc := ht c (List.mem_of_getElem? h2);have a1 := ha.s0; have a2 := ha.se; have a3 := ha.e1; have c1 := hc.s0; have c2 := hc.se; have c3 := hc.e1;simp only [Bool.and_eq_true] at hi hk;have hi := hi.2; have hk := hk.2;unfold s1131 at hi hk;rw [end_wrap (by omega) (by omega) b0 b1] at hi hk;simp only [Bool.and_eq_true, decide_eq_true_eq] at hi hk;show s1130 a c B = true;unfold s1130;rw [end_wrap (by omega) (by omega) b0 b1];exact decide_eq_true (by omega)
theorem no_lack {S : List S1122} {T : List S1124} {B : Int} (ht : ∀ t ∈ T, TurnOk t) (b0 : 0 ≤ B) (b1 : B ≤ 240) {op : List Nat} (hop : ∀ i, i < T.length → i ∈ op) {g : List Int} (hc : Comp S T B g op) (m z : Int) : (actN T B m z).length ≤ (stN S z).length := by
 obtain ⟨f, h1, h2⟩ := hc
 have hact : ∀ i, i ∈ actN T B m z ↔ i < T.length ∧ prB T B m z i = true := fun i => by unfold actN; rw [List.mem_filter, List.mem_range]
 have hnd : ((actN T B m z).map f).Nodup := by
  have : (actN T B m z).Nodup := List.Pairwise.filter _ List.nodup_range;rw [List.Nodup, List.pairwise_map];refine List.Pairwise.imp_of_mem ?_ this;intro i k hi hk hik;obtain ⟨i1, i2⟩ := (hact i).1 hi;obtain ⟨k1, k2⟩ := (hact k).1 hk;exact h2 i (hop i i1) k (hop k k1) hik (ov_there ht b0 b1 i2 k2)
 have := pigeon hnd (L := stN S z) fun x hx => by
  obtain ⟨i, hi, rfl⟩ := List.mem_map.1 hx;obtain ⟨i1, i2⟩ := (hact i).1 hi;have hf := h1 i (hop i i1);unfold frB at hf;rw [Bool.and_eq_true] at hf;have hs := hf.1;obtain ⟨l1, l2⟩ := suB_lt hs;unfold stN;rw [List.mem_filter, List.mem_range];refine ⟨l1, ?_⟩;unfold suB at hs;unfold szB;unfold prB at i2;rw [List.getElem?_eq_getElem l2, List.getElem?_eq_getElem l1] at hs;rw [List.getElem?_eq_getElem l1];rw [List.getElem?_eq_getElem l2] at i2;simp only [Bool.and_eq_true, decide_eq_true_eq] at hs i2;unfold s1128 at hs;simp only [Bool.and_eq_true, decide_eq_true_eq] at hs;exact decide_eq_true (by omega)
 rwa [List.length_map] at this
theorem clash_spec (S : List S1122) (T : List S1124) (B : Int) : ((s1060 S T B).2 = false ∧ (s1060 S T B).1 = ⟨0, 0⟩ ∧ ∀ t ∈ T, ∀ z : Int, 1 ≤ z → z ≤ 9 → s1061 S T B ⟨t.Start, z⟩ = false) ∨
  (∃ t ∈ T, ∃ s : Int, s1060 S T B = (⟨t.Start, s⟩, true) ∧ 1 ≤ s ∧ s ≤ 9 ∧ s1061 S T B ⟨t.Start, s⟩ = true) := by
 have hr := rc_l1 S T B T 0 (false, 0, 0);have hb := bst_fold (fun m s => s1061 S T B ⟨m, s⟩) T [] (false, 0, 0) (.inl ⟨rfl, by simp⟩);rw [List.nil_append] at hb;have e : s1060 S T B = (let w := T.foldl (fun z y => up y.Start (top (fun s => s1061 S T B ⟨y.Start, s⟩) 9) z) (false, 0, 0); ((⟨w.2.1, w.2.2⟩ : S1106), w.1)) := hr;rw [e];generalize T.foldl (fun z y => up y.Start (top (fun s => s1061 S T B ⟨y.Start, s⟩) 9) z) (false, 0, 0) = w at hb ⊢
 rcases hb with ⟨rfl, hb⟩ | ⟨m, s, rfl, b1, b2, _⟩
 ·refine .inl ⟨rfl, rfl, fun t ht z z1 z2 => ?_⟩;have h := hb t.Start (List.mem_map.2 ⟨t, ht, rfl⟩)
  cases hc : s1061 S T B ⟨t.Start, z⟩
  ·rfl
  ·exfalso
   have key : ∀ n : Nat, z ≤ n → top (fun s => s1061 S T B ⟨t.Start, s⟩) n ≠ none := by
    intro n
    induction n with
    | zero => intro h; omega
    | succ n ih =>
     intro hn;rw [top]
     by_cases hz : z = (n : Int) + 1
     ·rw [if_pos (by rw [← hz]; exact hc)]; simp
     ·split
      ·simp
      ·exact ih (by push_cast at hn; omega)
   exact key 9 z2 h
 ·obtain ⟨t, ht, rfl⟩ := List.mem_map.1 b1;have := top_rng b2;exact .inr ⟨t, ht, s, rfl, this.1, by have := this.2.1; omega, this.2.2⟩
def evS (s : S1122) : S1122 := ⟨s.Name, 9, ByteArray.empty⟩
def stA (T : List S1124) (i : Nat) : Int := (T.getD i default).Start
theorem color_l {T : List S1124} {B : Int} (ht : ∀ t ∈ T, TurnOk t) (b0 : 0 ≤ B) (b1 : B ≤ 240) {N : Nat} (hN : 0 < N) (hc : ∀ i, i < T.length → (actN T B (stA T i) 1).length ≤ N) :
  ∀ l : List Nat, l.Nodup → (∀ i ∈ l, i < T.length) → l.Pairwise (fun a b => stA T b ≤ stA T a) → ∃ f : Nat → Nat, (∀ i ∈ l, f i < N) ∧ ∀ i ∈ l, ∀ k ∈ l, i ≠ k → ovB T B i k = true → f i ≠ f k
 | [], _, _, _ => ⟨fun _ => 0, by simp, by simp⟩
 | i :: l, hn, hl, hp => by
  rw [List.nodup_cons] at hn;rw [List.pairwise_cons] at hp;obtain ⟨f, f1, f2⟩ := color_l ht b0 b1 hN hc l hn.2 (fun k hk => hl k (List.mem_cons_of_mem _ hk)) hp.2;have hi := hl i List.mem_cons_self
  have hpr : ∀ k ∈ l, ovB T B k i = true → prB T B (stA T i) 1 k = true ∧ prB T B (stA T i) 1 i = true := by
   intro k hk ho;have hk1 := hl k (List.mem_cons_of_mem _ hk);have hs := hp.1 k hk
   have gi : T.getD i default = T[i] := by rw [List.getD_eq_getElem?_getD, List.getElem?_eq_getElem hi]; rfl
   have gk : T.getD k default = T[k] := by rw [List.getD_eq_getElem?_getD, List.getElem?_eq_getElem hk1]; rfl
   unfold stA at hs ⊢;rw [gi, gk] at hs;rw [gi];unfold ovB at ho;rw [List.getElem?_eq_getElem hk1, List.getElem?_eq_getElem hi] at ho;have ho : s1130 T[k] T[i] B = true := ho;have oi := ht T[i] (List.getElem_mem _);have ok := ht T[k] (List.getElem_mem _);have a1 := oi.s0; have a2 := oi.se; have a3 := oi.e1; have a4 := oi.z0; have c1 := ok.s0; have c2 := ok.se; have c3 := ok.e1; have c4 := ok.z0;unfold s1130 at ho;rw [end_wrap (by omega) (by omega) b0 b1] at ho;have ho := of_decide_eq_true ho;unfold prB s1131;rw [List.getElem?_eq_getElem hk1, List.getElem?_eq_getElem hi];dsimp only;rw [end_wrap (by omega) (by omega) b0 b1, end_wrap (by omega) (by omega) b0 b1]
   constructor <;> simp only [Bool.and_eq_true, decide_eq_true_eq] <;> omega
  have hcol : ∃ s, s < N ∧ ∀ k ∈ l, ovB T B k i = true → f k ≠ s := by
   by_cases hL : l.filter (fun k => ovB T B k i) = []
   ·refine ⟨0, hN, fun k hk ho => ?_⟩;have : k ∈ l.filter (fun k => ovB T B k i) := List.mem_filter.2 ⟨hk, ho⟩;rw [hL] at this; cases this
   ·obtain ⟨k0, hk0⟩ := List.exists_mem_of_ne_nil _ hL;have hk0 := List.mem_filter.1 hk0
    have hnd : (i :: l.filter (fun k => ovB T B k i)).Nodup := by
     rw [List.nodup_cons];exact ⟨fun h => hn.1 (List.mem_filter.1 h).1, List.Pairwise.filter _ hn.2⟩
    have hle := pigeon hnd (L := actN T B (stA T i) 1) fun x hx => by
     unfold actN;rw [List.mem_filter, List.mem_range]
     rcases List.mem_cons.1 hx with rfl | hx
     ·exact ⟨hi, (hpr k0 hk0.1 hk0.2).2⟩
     ·have hx := List.mem_filter.1 hx;exact ⟨hl x (List.mem_cons_of_mem _ hx.1), (hpr x hx.1 hx.2).1⟩
    have := hc i hi;rw [List.length_cons] at hle;obtain ⟨s, s1, s2⟩ := one_left (F := List.range N) List.nodup_range (L := (l.filter (fun k => ovB T B k i)).map f) (by rw [List.length_map, List.length_range]; omega);exact ⟨s, List.mem_range.1 s1, fun k hk ho e => s2 (e ▸ List.mem_map.2 ⟨k, List.mem_filter.2 ⟨hk, ho⟩, rfl⟩)⟩
  obtain ⟨s, s1, s2⟩ := hcol;have hne : ∀ k ∈ l, k ≠ i := fun k hk e => hn.1 (e ▸ hk);refine ⟨fun k => if k = i then s else f k, fun k hk => ?_, fun a ha b hb hab ho => ?_⟩
  ·dsimp only
   rcases List.mem_cons.1 hk with ek | hk
   ·rw [if_pos ek]; exact s1
   ·rw [if_neg (hne k hk)]; exact f1 k hk
  ·dsimp only
   rcases List.mem_cons.1 ha with ea | ha
   ·rcases List.mem_cons.1 hb with eb | hb
    ·exact absurd (ea.trans eb.symm) hab
    ·rw [if_pos ea, if_neg (hne b hb)];exact fun e => s2 b hb (by rw [ovB_sym, ← ea]; exact ho) e.symm
   ·rcases List.mem_cons.1 hb with eb | hb
    ·rw [if_neg (hne a ha), if_pos eb];exact s2 a ha (by rw [← eb]; exact ho)
    ·rw [if_neg (hne a ha), if_neg (hne b hb)];exact f2 a ha b hb hab ho
theorem color {T : List S1124} {B : Int} (ht : ∀ t ∈ T, TurnOk t) (b0 : 0 ≤ B) (b1 : B ≤ 240) {N : Nat} (hN : 0 < N) (hc : ∀ i, i < T.length → (actN T B (stA T i) 1).length ≤ N) :
  ∃ f : Nat → Nat, (∀ i, i < T.length → f i < N) ∧ ∀ i, i < T.length → ∀ k, k < T.length → i ≠ k → ovB T B i k = true → f i ≠ f k := by
 let lt : Nat → Nat → Bool := fun a b => decide (stA T a < stA T b)
 have hs : (isort lt (List.range T.length)).Pairwise (fun a b => stA T a ≤ stA T b) := by
  refine isort_sorted (Rel := fun a b => stA T a ≤ stA T b) (fun a b c h k => Int.le_trans h k) (List.pairwise_of_forall fun y x => ⟨fun h => ?_, fun h => ?_⟩)
  ·have := of_decide_eq_true h; omega
  ·have := of_decide_eq_false h; omega
 have hp := isort_perm lt (List.range T.length)
 have hmem : ∀ i, i ∈ (isort lt (List.range T.length)).reverse ↔ i < T.length := fun i => by rw [List.mem_reverse, hp.mem_iff, List.mem_range]
 obtain ⟨f, f1, f2⟩ := color_l ht b0 b1 hN hc (isort lt (List.range T.length)).reverse (List.pairwise_reverse.2 (List.Pairwise.imp (fun h => Ne.symm h) (hp.nodup_iff.2 List.nodup_range))) (fun i hi => (hmem i).1 hi) (List.pairwise_reverse.2 hs);exact ⟨f, fun i hi => f1 i ((hmem i).2 hi), fun i hi k hk => f2 i ((hmem i).2 hi) k ((hmem k).2 hk)⟩
theorem actN_mono {T : List S1124} {B m z : Int} (hz : 1 ≤ z) : (actN T B m z).length ≤ (actN T B m 1).length := by
 refine pigeon (List.Pairwise.filter _ List.nodup_range) fun i hi => ?_;unfold actN at *;rw [List.mem_filter] at *;refine ⟨hi.1, ?_⟩;have h := hi.2;unfold prB at *
 cases hT : T[i]? with
 | none => rw [hT] at h; cases h
 | some t =>
  rw [hT] at h;simp only [Bool.and_eq_true, decide_eq_true_eq] at h ⊢;exact ⟨by omega, h.2⟩
theorem stN_ev {S : List S1122} {z : Int} (hz : z ≤ 9) : (stN (S.map evS) z).length = S.length := by
 unfold stN;rw [List.filter_eq_self.2 fun s hs => ?_, List.length_range, List.length_map];have hs := List.mem_range.1 hs;rw [List.length_map] at hs;unfold szB;rw [List.getElem?_map, List.getElem?_eq_getElem hs];exact decide_eq_true hz
theorem start_stA {T : List S1124} {P : Int → Prop} : (∀ t ∈ T, P t.Start) ↔ ∀ i, i < T.length → P (stA T i) := by
 have g : ∀ i (hi : i < T.length), stA T i = T[i].Start := fun i hi => by unfold stA; rw [List.getD_eq_getElem?_getD, List.getElem?_eq_getElem hi]; rfl
 constructor
 ·intro h i hi; rw [g i hi]; exact h _ (List.getElem_mem _)
 ·intro h t ht;obtain ⟨i, hi, rfl⟩ := List.getElem_of_mem ht;rw [← g i hi]; exact h i hi
theorem even_iff {S : List S1122} {T : List S1124} {B : Int} (ht : ∀ t ∈ T, TurnOk t) (b0 : 0 ≤ B) (b1 : B ≤ 240) (hN : 0 < S.length) :
  (res (S.map evS) T B T.length []).isSome = true ↔ ∀ t ∈ T, (actN T B t.Start 1).length ≤ S.length := by
 have hcr := comp_res (S := S.map evS) (T := T) (B := B) T.length [] (by simp);rw [← hcr]
 constructor
 ·intro h t _;have := no_lack ht b0 b1 (fun i hi => by rw [List.mem_range'_1]; simp; exact hi) h t.Start 1
  rwa [stN_ev (by decide)] at this
 ·intro h;obtain ⟨f, f1, f2⟩ := color ht b0 b1 hN ((start_stA (P := fun m => (actN T B m 1).length ≤ S.length)).1 h)
  have hlt : ∀ i ∈ List.range' ([] : List Int).length T.length, i < T.length := fun i hi => by have := List.mem_range'_1.1 hi; simp at this; exact this
  refine ⟨f, fun i hi => ?_, fun i hi k hk => f2 i (hlt i hi) k (hlt k hk)⟩;have hi := hlt i hi;have hf := f1 i hi;unfold frB;rw [Bool.and_eq_true]
  constructor
  ·unfold suB;rw [List.getElem?_eq_getElem hi, List.getElem?_map, List.getElem?_eq_getElem hf];have := (ht T[i] (List.getElem_mem _)).z1;show s1128 T[i] (evS S[f i]) = true;unfold s1128 s1126 evS;simp only [Bool.and_eq_true, Bool.or_eq_true, decide_eq_true_eq];exact ⟨this, .inr rfl⟩
  ·rw [Bool.not_eq_true'];unfold takB;rw [List.any_eq_false];intro k hk;rw [gb_un (Nat.zero_le _) (oth_mem.1 hk).1];simp only [decide_eq_true_eq, Option.some.injEq]
   omega
theorem even_clash {S : List S1122} {T : List S1124} {B : Int} (hS : S.length ≤ 1000) (hT : T.length ≤ 1000) : (s1060 (S.map evS) T B).2 = false ↔ ∀ t ∈ T, (actN T B t.Start 1).length ≤ S.length := by
 have hS' : (S.map evS).length ≤ 1000 := by rw [List.length_map]; exact hS
 rcases clash_spec (S.map evS) T B with ⟨h1, _, h2⟩ | ⟨t, ht, s, h1, s1, s9, h2⟩
 ·refine ⟨fun _ t ht => ?_, fun _ => h1⟩;have := h2 t ht 1 (by decide) (by decide);rw [lack_cnt B t.Start 1 hS' hT, stN_ev (by decide)] at this;have := of_decide_eq_false this
  omega
 ·rw [h1]
  constructor
  ·intro h; cases h
  ·intro h
   exfalso
   rw [lack_cnt B t.Start s hS' hT, stN_ev s9] at h2;have h2 := of_decide_eq_true h2;have := h t ht;have := actN_mono (T := T) (B := B) (m := t.Start) s1
   omega
theorem even_least {S : List S1122} {T : List S1124} {B : Int} (hT : T.length ≤ 1000) : vmax (T.map S1124.Start) (fun y => s1125 T B y 1) 0 ≤ (S.length : Int) ↔ ∀ t ∈ T, (actN T B t.Start 1).length ≤ S.length := by
 obtain ⟨_, v2, v3⟩ := vmax_spec (fun y => s1125 T B y 1) (T.map S1124.Start) 0
 constructor
 ·intro h t ht;have := v2 t.Start (List.mem_map.2 ⟨t, ht, rfl⟩);rw [there_ok B t.Start 1 hT] at this
  omega
 ·intro h
  rcases v3 with v3 | ⟨m, hm, v3⟩
  ·rw [v3]; omega
  ·obtain ⟨t, ht, rfl⟩ := List.mem_map.1 hm;rw [v3, there_ok B t.Start 1 hT];have := h t ht
   omega
section
variable {E : Env} {w0 : World} {M0 : Nat → Prop}
def G.e0 : G := ⟨fun _ _ u => ∃ b o, u = .slice (some ⟨b, o, none⟩) 0 0, fun h _ _ => h⟩
end
theorem res_some0 {S : List S1122} {T : List S1124} {B : Int} {L : List Int} (h : res S T B T.length [] = some L) : L.length = T.length ∧ Vld S T B L := by
 obtain ⟨h1, h2, _⟩ := res_spec T.length [] L (by simp) (fun i hi => by simp at hi) h;exact ⟨h1, h2⟩
theorem movs_zero (a : List S1079) : ∀ (t : List S1079) (k : Nat), s1099_l1 a s1100 t k = 0 ↔ ∀ y ∈ t, s1100 y [] = 0
 | [], k => by simp [s1099_l1]
 | y :: t, k => by
  rw [s1099_l1];have e : s1100 y (List.take (Int.toNat ((k : Nat) : Int)) a) = s1100 y [] := rfl;rw [e]
  by_cases h : s1100 y [] = 0
  ·rw [decide_eq_false (fun hn => hn h), cond_false, movs_zero a t]; simp [h]
  ·rw [decide_eq_true h, cond_true]
   constructor
   ·intro h2; exact absurd h2 h
   ·intro h2; exact absurd (h2 y List.mem_cons_self) h
theorem movs_iff (l : List S1079) : s1027 l = 0 ↔ l.length ≤ 256 ∧ ∀ y ∈ l, s1100 y [] = 0 := by
 unfold s1027 s1099
 by_cases h : (256 : Int) < (List.length l : Int)
 ·rw [decide_eq_true h, cond_true]
  constructor
  ·intro e; exact absurd e (by decide)
  ·intro e; exact absurd e.1 (by omega)
 ·rw [decide_eq_false h, cond_false, movs_zero]
  constructor
  ·intro e; exact ⟨by omega, e⟩
  ·intro e; exact e.2
end Go.Sim
namespace Go.Proofs
open Go.RowKit Go.Shelf
attribute [local go_sem] Oper.semAt_some
theorem wd_any (d : Int) (h0 : 0 ≤ d) (h1 : d ≤ 1000000) (w : World) : Calls Tryz.prog 153 #[.int .i64 d] w fun e w' => e = .returned (.int .i64 ((d + 5) % 7)) ∧ w' = w := by
 go_enter Tryz.func153, Tryz.ntmps153
 go_wp2
 go_ret
 exact ⟨rfl, rfl⟩
theorem bits_and (a b : Int) : bits BinOp.and IntKind.i64 a b = Sim.andI a b := rfl
theorem shr_eq (m d : Int) (h0 : 0 ≤ d) (h1 : d ≤ 6) : m / 2 ^ d.toNat = Sim.shrI m d := by
 unfold Sim.shrI;rw [Nat.min_eq_left (by omega), Int.fdiv_eq_ediv_of_nonneg _ (by exact Int.le_of_lt (Int.pow_pos (by decide)))]
theorem im_any (m d : Int) (h0 : 0 ≤ d) (h1 : d ≤ 6) (w : World) : Calls Tryz.prog 152 #[.int .i64 m, .int .i64 d] w fun e w' => e = .returned (.bool (decide (Sim.andI (Sim.shrI m d) 1 = 1))) ∧ w' = w := by
 go_enter Tryz.func152, Tryz.ntmps152
 go_wp2
 go_ret
 refine ⟨?_, rfl⟩;rw [bits_and, shr_eq m d h0 h1];rw [show (Sim.andI (Sim.shrI m d) 1 == 1) = decide (Sim.andI (Sim.shrI m d) 1 = 1) by rw [Bool.eq_iff_iff]; simp]
 rfl
def inM (m d : Int) : Bool := decide (Sim.andI (Sim.shrI m ((d + 5) % 7)) 1 = 1)
def dayL (m : Int) : Nat → Int → List Int
 | 0, _ => []
 | n + 1, d => if inM m d = true then d :: dayL m n (d + 1) else dayL m n (d + 1)
theorem im_T (m d : Int) (hm : inM m d = true) (h0 : 0 ≤ d) (h1 : d ≤ 1000000) (w : World) : Calls Tryz.prog 152 #[.int .i64 m, .int .i64 ((d + 5) % 7)] w fun e w' => e = .returned (.bool true) ∧ w' = w :=
 (im_any m ((d + 5) % 7) (by omega) (by omega) w).mono fun e w' ⟨h, k⟩ => ⟨by rw [h]; unfold inM at hm; rw [hm], k⟩
theorem im_F (m d : Int) (hm : inM m d = false) (h0 : 0 ≤ d) (h1 : d ≤ 1000000) (w : World) : Calls Tryz.prog 152 #[.int .i64 m, .int .i64 ((d + 5) % 7)] w fun e w' => e = .returned (.bool false) ∧ w' = w :=
 (im_any m ((d + 5) % 7) (by omega) (by omega) w).mono fun e w' ⟨h, k⟩ => ⟨by rw [h]; unfold inM at hm; rw [hm], k⟩
set_option maxRecDepth 100000 in
set_option maxHeartbeats 1000000 in
theorem days1_in (F : Fence) (n : Nat) (h6 : F.fn 151) (h7 : F.fn 152) (h8 : F.fn 153) (hro : F.round = none) (hw : F = Fence.wide) (hn : 2 ≤ n) (l b o n₀ : Nat) (hb : b < n₀) (f t m : Int) (hf : 0 ≤ f) (ht : t ≤ 1000000) (J Jx : List Int → World → Prop) (hJd : ∀ pre W k, J pre W → J pre (W.drewN k))
  (hY : ∀ pre x W, J pre W → pre.length < (dayL m (t + 1 - f).toNat f).length → YieldAt F (n - 1) Tryz.prog l #[.int .i64 x] W fun e W' =>
   (e = .returned (.bool true) ∧ J (pre ++ [x]) W' ∧ Below n₀ W W') ∨ (e = .returned (.bool false) ∧ Jx (pre ++ [x]) W'))
  (W : World) (c0 : W.cell? ⟨b, o, none⟩ = some (.int .i64 f)) (c1 : W.cell? ⟨b, o + 1, none⟩ = some (.int .i64 t)) (c2 : W.cell? ⟨b, o + 2, none⟩ = some (.int .i64 m)) (h0 : J [] W) :
  CallsIn F n Tryz.prog 151 #[.func (.yield l) #[] #[], .pointer (some ⟨b, o, none⟩)] W fun e W' => (∃ v, e = .returned v) ∧
   ((∃ ys, ys = dayL m (t + 1 - f).toNat f ∧ J ys W') ∨ (∃ pre, pre <+: dayL m (t + 1 - f).toNat f ∧ Jx pre W')) := by
 refine callsIn_of_wp Tryz.func151 rfl h6 ?_ hro;simp only [Tryz.ntmps151, List.size_toArray, List.length_cons, List.length_nil, Nat.reduceAdd, Nat.reduceSub, Array.replicate_succ, Array.replicate_zero, List.push_toArray, List.append_toArray, List.nil_append, List.cons_append];subst hw
 gi_wp2
 gi_loopw [3] (fun p wr => ∃ (pre : List Int) (d : Int), p = .int .i64 d ∧ f ≤ d ∧ (d ≤ t + 1 ∨ d = f) ∧ dayL m (t + 1 - f).toNat f = pre ++ dayL m (t + 1 - d).toNat d ∧ wr.cell? ⟨b, o + 1, none⟩ = some (.int .i64 t) ∧ wr.cell? ⟨b, o + 2, none⟩ = some (.int .i64 m) ∧ J pre wr)
  (fun p _ => (t + 1 - intOf p).toNat)
 case atStart => exact ⟨[], f, rfl, Int.le_refl _, .inr rfl, rfl, c1, c2, h0⟩
 case round =>
  clear c0 c1 c2 h0;obtain ⟨pre, d, rfl, hd1, hd2, hx, c1, c2, hJs⟩ := hrel
  by_cases hlt : d ≤ t
  ·have hs : dayL m (t + 1 - d).toNat d = if inM m d = true then d :: dayL m (t + 1 - (d + 1)).toNat (d + 1) else dayL m (t + 1 - (d + 1)).toNat (d + 1) := by
    obtain ⟨k, hk⟩ : ∃ k, (t + 1 - d).toNat = k + 1 := ⟨(t - d).toNat, by omega⟩;rw [hk, dayL, show (t + 1 - (d + 1)).toNat = k by omega]
   by_cases hm : inM m d = true
   ·obtain ⟨fn, tmps, assign, body, hy, hR'⟩ := YieldAt.mono (hY pre d wr.drew (hJd _ _ 1 hJs) (by rw [hx, hs, if_pos hm]; simp)) (R' := fun e W' => ∃ bb : Bool, e = .returned (.bool bb) ∧ ((bb = true → J (pre ++ [d]) W' ∧ Below n₀ wr.drew W') ∧ (bb = false → Jx (pre ++ [d]) W'))) (by
     rintro e W' (⟨rfl, k1, k2⟩ | ⟨rfl, k1⟩)
     ·exact ⟨true, rfl, (fun _ => ⟨k1, k2⟩), (fun h => (by cases h))⟩
     ·exact ⟨false, rfl, (fun h => (by cases h)), (fun _ => k1)⟩)
    have X1 := Lib.hid hx; clear hx;have X2 := Lib.hid hs; clear hs
    gi_wp2
    gi_region_with (first | (refine ⟨fun h => (by cases h), ?_⟩; gi_at_call 153; refine (callsIn_wide.2 (wd_any _ (by omega) (by omega) _)).mono ?_; rintro e w' ⟨rfl, rfl⟩) | (refine ⟨fun h => (by cases h), ?_⟩; gi_at_call 152; refine (callsIn_wide.2 (im_T _ _ hm (by omega) (by omega) _)).mono ?_; rintro e w' ⟨rfl, rfl⟩) | (refine ⟨fun h => (by cases h), ?_⟩; refine hR'.mono ?_; rintro e W' ⟨bb, rfl, hT, hF⟩))
    all_goals
     cases bb with
     | true =>
      obtain ⟨hJ3, hk3⟩ := hT rfl;clear hT hF;have e1 : W'.cell? ⟨b, o + 1, none⟩ = some (.int .i64 t) := (hk3.cell (p := ⟨b, o + 1, none⟩) hb).trans c1;have e2 : W'.cell? ⟨b, o + 2, none⟩ = some (.int .i64 m) := (hk3.cell (p := ⟨b, o + 2, none⟩) hb).trans c2
      go_simp
      gi_wp2
      go_roundw
      case rel => exact ⟨pre ++ [d], d + 1, rfl, by omega, by omega, by rw [X1.out, X2.out, if_pos hm]; simp, e1, e2, hJ3⟩
      case measure => simp [intOf]; omega
     | false =>
      have hX := hF rfl;clear hT hF
      go_simp
      gi_wp2
      refine bodyPost_ret (results_none rfl _ _ _) rfl ?_;exact ⟨⟨_, rfl⟩, .inr ⟨pre ++ [d], ⟨dayL m (t + 1 - (d + 1)).toNat (d + 1), by rw [X1.out, X2.out, if_pos hm]; simp⟩, hX⟩⟩
   ·have hm' : inM m d = false := by simpa using hm
    have X1 := Lib.hid hx; clear hx;have X2 := Lib.hid hs; clear hs
    gi_wp2
    refine wpIn_region_quiet_lit rfl (by kernel_rfl) (by kernel_rfl) ?_
    repeat (gi_big_quiet_step (fail))
    gi_big_quiet_step ((refine ⟨fun h => (by cases h), ?_⟩; exact CallsIn.quiet_of_same (callsIn_wide.2 (wd_any d (by omega) (by omega) _))))
    repeat (gi_big_quiet_step (fail))
    gi_big_quiet_step ((refine ⟨fun h => (by cases h), ?_⟩; exact CallsIn.quiet_of_same (callsIn_wide.2 (im_F m d hm' (by omega) (by omega) _))))
    repeat (gi_big_quiet_step (fail))
    refine BigFrame.wpQuietIn_skip (fun _ _ _ _ => trivial) (by rfl) ?_;simp only [Act.put, List.setIfInBounds_toArray, List.set_cons_succ, List.set_cons_zero]
    repeat (gi_big_quiet_step (fail))
    refine wpQuietIn_nil ?_;intro _ hw';obtain ⟨nq, hw''⟩ := hw';subst hw''
    gi_wp2
    go_roundw
    case rel => exact ⟨pre, d + 1, rfl, by omega, by omega, by rw [X1.out, X2.out, if_neg hm], c1, c2, hJd _ _ _ hJs⟩
    case measure => simp [intOf]; omega
  ·have hs : dayL m (t + 1 - d).toNat d = [] := by rw [show (t + 1 - d).toNat = 0 by omega]; rfl
   have X1 := Lib.hid hx; clear hx;have X2 := Lib.hid hs; clear hs
   gi_wp2
   go_end0
   refine ⟨⟨_, rfl⟩, .inl ?_⟩
   have : dayL m (t + 1 - f).toNat f = pre := by rw [X1.out, X2.out]; simp
   rw [this]; exact hJs
theorem days_stops (n : Nat) (hn : 2 ≤ n) (b o n₀ : Nat) (f t m : Int) (hf : 0 ≤ f) (ht : t ≤ 1000000) (w : World) (hb : b < n₀) (hn₀ : n₀ ≤ w.heap.size) (c0 : w.cell? ⟨b, o, none⟩ = some (.int .i64 f)) (c1 : w.cell? ⟨b, o + 1, none⟩ = some (.int .i64 t)) (c2 : w.cell? ⟨b, o + 2, none⟩ = some (.int .i64 m)) :
  SeqStopsK Fence.wide n Tryz.prog 151 #[.pointer (some ⟨b, o, none⟩)] (fun x : Int => #[Value.int .i64 x]) (Below n₀) (fun ys => ys = dayL m (t + 1 - f).toNat f) (fun pre => pre <+: dayL m (t + 1 - f).toNat f) (dayL m (t + 1 - f).toNat f).length w := fun l J Jx W hW hJ _ hY h0 =>
 days1_in Fence.wide n trivial trivial trivial rfl rfl hn l b o n₀ hb f t m hf ht J Jx (fun pre W k h => hJ pre W (W.drewN k) none h ⟨rfl, rfl, rfl, Nat.le_refl _, fun _ _ _ => rfl⟩ (fun r e => by cases e)) hY W
  ((hW.cell (p := ⟨b, o, none⟩) (Nat.lt_of_lt_of_le hb hn₀)).trans c0) ((hW.cell (p := ⟨b, o + 1, none⟩) (Nat.lt_of_lt_of_le hb hn₀)).trans c1) ((hW.cell (p := ⟨b, o + 2, none⟩) (Nat.lt_of_lt_of_le hb hn₀)).trans c2) h0
theorem dayL_len (m : Int) : ∀ (n : Nat) (d : Int), (dayL m n d).length ≤ n
 | 0, _ => Nat.le_refl _
 | n + 1, d => by
  unfold dayL;have := dayL_len m n (d + 1)
  split <;> simp <;> omega
theorem yes_any (x : Int) (w : World) : Calls Tryz.prog 125 #[.int .i64 x] w fun e w' => e = .returned (.bool true) ∧ w' = w := by
 go_enter Tryz.func125, Tryz.ntmps125
 go_wp2
 go_ret
 exact ⟨rfl, rfl⟩
end Go.Proofs
namespace Go.Proofs
open Go.RowKit Go.Shelf
attribute [local go_sem] Oper.semAt_some
theorem yes_any2 (x : Int) (w : World) : Calls Tryz.prog 125 #[.int .i64 x] w fun e w' => e = .returned (.bool true) ∧ w = w' := (yes_any x w).mono fun _ _ ⟨h, k⟩ => ⟨h, k.symm⟩
theorem info3 : (Tryz.prog.info? 3).map (fun i => (i.zero, i.size, i.bytes)) = some (some (.int .i64 0), 1, 8) := by kernel_rfl
set_option maxRecDepth 100000 in
set_option maxHeartbeats 2000000 in
theorem collected_in (b o : Nat) (f t m : Int) (hf : 0 ≤ f) (ht : t ≤ 1000000) (w : World) (hb : b < w.heap.size) (c0 : w.cell? ⟨b, o, none⟩ = some (.int .i64 f)) (c1 : w.cell? ⟨b, o + 1, none⟩ = some (.int .i64 t)) (c2 : w.cell? ⟨b, o + 2, none⟩ = some (.int .i64 m)) :
  CallsIn Fence.wide 4 Tryz.prog 123 #[.func (.func 151) #[] #[.pointer (some ⟨b, o, none⟩)], .func (.func 125) #[] #[]] w fun e W' => ∃ v, e = .returned v ∧ W'.ownsRow (w.heap.size + 1) 3 1 v (dayL m (t + 1 - f).toNat f).length ((dayL m (t + 1 - f).toNat f).map (Value.int .i64)) ∧ (v = .slice none 0 0 ↔ dayL m (t + 1 - f).toNat f = []) ∧ Below w.heap.size w W' := by
 obtain ⟨i0, hi, hz0, hz1, hz2⟩ := info_parts info3;have hlen := dayL_len m (t + 1 - f).toNat f
 have hlen2 : (t + 1 - f).toNat ≤ 1000001 := by omega
 refine callsIn_of_wp_marks Tryz.func123 rfl trivial ?_ rfl;simp only [Tryz.ntmps123, List.size_toArray, List.length_cons, List.length_nil, Nat.reduceAdd, Nat.reduceSub, Array.replicate_succ, Array.replicate_zero, List.push_toArray, List.append_toArray, List.nil_append, List.cons_append]
 gi_wp2
 have bO := Boxed.new (w.alloc (.cells #[.func (.func 125) #[] #[]] 146)) 51 (.slice none 0 0);rw [World.size_alloc] at bO;have bF := (Boxed.new w 146 (.func (.func 125) #[] #[])).cell;have hB00 : Below w.heap.size w (w.alloc (.cells #[.func (.func 125) #[] #[]] 146)) := (Below.refl _ w).alloc (Nat.le_refl _) _;have hB0 : Below (w.heap.size + 1) (w.alloc (.cells #[.func (.func 125) #[] #[]] 146)) ((w.alloc (.cells #[.func (.func 125) #[] #[]] 146)).alloc (.cells #[.slice none 0 0] 51)) := (Below.refl _ _).alloc (by simp) _;have hB1 : Below w.heap.size w ((w.alloc (.cells #[.func (.func 125) #[] #[]] 146)).alloc (.cells #[.slice none 0 0] 51)) := hB00.trans (hB0.mono (by omega));refine wpIn_rangeFunc_ownG rfl (by decide) (gf := 151) (lb := #[.pointer (some ⟨b, o, none⟩)]) rfl trivial (enters_of Tryz.func151 (by kernel_rfl) rfl)
  (days_stops 3 (by decide) b o (w.heap.size + 1) f t m hf ht _ (by omega) (by simp) ((hB1.cell (p := ⟨b, o, none⟩) hb).trans c0) ((hB1.cell (p := ⟨b, o + 1, none⟩) hb).trans c1) ((hB1.cell (p := ⟨b, o + 2, none⟩) hb).trans c2)) belowK_t (belowK_b (by simp)) (Below.refl _ _) (fun _ => rfl)
  (fun pre W => (∃ v, Boxed W (w.heap.size + 1) 51 v ∧ W.ownsRow (w.heap.size + 1) 3 1 v pre.length (pre.map (Value.int .i64)) ∧ (v = .slice none 0 0 ↔ pre = [])) ∧ Below (w.heap.size + 1) (w.alloc (.cells #[.func (.func 125) #[] #[]] 146)) W)
  (fun _ _ _ => False)
  (OwnFrom.and (Own.from (holdsRow_own (w.heap.size + 1) (w.heap.size + 1) 51 3 1 (fun pre : List Int => pre.length) (fun pre => pre.map (Value.int .i64)) (fun pre v => v = .slice none 0 0 ↔ pre = [])) _) (ownFrom_below (by simp) (by simp)))
  (fun _ _ _ _ _ hs _ _ => hs)
  ⟨⟨_, bO, World.ownsRow_nil _ _ _ _, by simp⟩, hB0⟩
  (fun x => { tmps := #[Value.func (Fn.func 151) #[] #[Value.pointer (some { block := b, off := o })],
     Value.func (Fn.func 125) #[] #[], undef, Value.pointer (some { block := w.heap.size, off := 0 }),
     Value.slice none 0 0, Value.pointer (some { block := w.heap.size + 1, off := 0 }), .int .i64 x,
     Value.func (Fn.func 151) #[] #[Value.pointer (some { block := b, off := o })], .int .i64 x, undef, undef, undef,
     undef, undef, undef, undef, undef], defers := [] }) ?assign ?body ?done ?stop
 case assign =>
  intro l x W K hK
  gi_wp2
  exact hK
 case body =>
  rintro l pre x W ⟨⟨v, hv, hrow, hnil⟩, hB⟩ hlt;have hc := hv.cell;have hfc : W.cell? ⟨w.heap.size, 0, none⟩ = some (.func (.func 125) #[] #[]) := (hB.cell (p := ⟨w.heap.size, 0, none⟩) (by simp)).trans bF
  gi_wp2_with (first | (gi_at_call 125; refine (CallsIn.inRound l (callsIn_wide.2 (yes_any2 x _))).mono ?_; rintro e w' ⟨rfl, rfl⟩) | (refine ⟨trivial, ?_⟩; gi_at_call 125; refine (CallsIn.inRound l (callsIn_wide.2 (yes_any2 x _))).mono ?_; rintro e w' ⟨rfl, rfl⟩) | (refine ⟨fun h => (by cases h), ?_⟩; gi_at_call 125; refine (CallsIn.inRound l (callsIn_wide.2 (yes_any2 x _))).mono ?_; rintro e w' ⟨rfl, rfl⟩) | (gi_at_builtin; refine wpListIn_append_own _ rfl _ _ 51 rfl (w.heap.size + 1) 3 i0 (.int .i64 0) 1 8 Tryz.underlying51 hi hz0 hz1 hz2 rfl (by decide) _ _ _ rfl (hrow.alloc _) ⟨W.heap.size, 0, none⟩ 1 1 [.int .i64 x] rfl rfl (cell_one_new _ _ _) (by simp [Value.oneCell']) (by unfold maxLen; omega) (by omega) (by have := hB.size; simp at this ⊢; omega) ?_; intro v' w1 hown' hgrow _; obtain ⟨g', cap', rfl⟩ := ownsRow_succ hown'; obtain ⟨hv1, hv2, hr2, hk2, hb2⟩ := hv.appended (by decide) hrow (by have := hB.size; simp at this ⊢; omega) (Nat.le_refl _) hown' hgrow; have hc1 := hv1.cell; have hf1 := hv1.frozen))
  exact ⟨hk2.from _, hb2, ⟨_, hv2, by simpa using hr2, by simp⟩, hB.trans hb2⟩
 case done =>
  rintro D ys W hD rfl ⟨⟨v, hv, hrow, hnil⟩, hB⟩ hK;have hc := hv.cell
  gi_wp2
  refine ⟨by simp, .inl ⟨_, _, rfl, run_takeDeferred hK, ?_⟩⟩;exact ⟨_, results_tmp rfl _ _ _, v, rfl, ownsRow_putObj hrow _ hK rfl, hnil, hB00.trans ((hB.mono (by omega)).trans (belowK_b (w := w) (Nat.le_refl _) W D _ _ (by simp at hD; omega) hK rfl rfl))⟩
 case stop =>
  rintro D c pre W _ _ h _;exact h.elim
end Go.Proofs
