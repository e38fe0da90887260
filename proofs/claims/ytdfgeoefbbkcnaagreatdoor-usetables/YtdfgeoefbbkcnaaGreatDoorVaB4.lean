/-
  What is proved: the laid tables, and what a law owes behind its walk.
-/
import Derived.Test.YtdfgeoefbbkcnaaGreatDoorVaA9
import Derived.Test.YtdfgeoefbbkcnaaGreatDoorVaB1
import Derived.Test.YtdfgeoefbbkcnaaGreatDoorRows
import Derived.Test.YtdfgeoefbbkcnaaGreatDoorTie
import Derived.ProofKit
import Derived.LaidMore
import Derived.OpenShut
import Derived.Stop.Joined
import Derived.Carry
set_option linter.unusedSectionVars false
set_option linter.unusedSimpArgs false
set_option linter.unusedVariables false
set_option linter.unnecessarySimpa false
set_option linter.deprecated false
namespace Go.Proofs.YtdfgeoefbbkcnaaGreatDoor
open Go.ChangeShapes Go.WideShapes Go.ChangeAt Go.WideMaps Go.WideElems Go.RowKit
open Go.Sim (EG glT GlOk Cells G Grow)
abbrev laid2 : List (String × DataW Unit) := [("turnround/calendar.lengths", Rows.laid_turnround_calendar_lengths), ("turnround/use.statuses", Rows.laid_turnround_use_statuses)]
theorem own : ownKnob Tryz.prog.godebug = none := by kernel_rfl
theorem qs8 : laidOutB Tryz.prog = true := by kernel_rfl
theorem gLen : Tryz.prog.globalNamed "turnround/calendar.lengths" = some 1 := by kernel_rfl
theorem gSta : Tryz.prog.globalNamed "turnround/use.statuses" = some 0 := by kernel_rfl
theorem tLen : (Tryz.prog.globals[1]?).map (·.type) = some 296 := by kernel_rfl
theorem tSta : (Tryz.prog.globals[0]?).map (·.type) = some 199 := by kernel_rfl
theorem uLen : Tryz.prog.underlying 296 = some (.array 12 3) := by kernel_rfl
theorem uSta : Tryz.prog.underlying 199 = some (.array 4 9) := by kernel_rfl
theorem qhm {H : Type} {enc : TypeId × Value → H} {P : Program} {w : World} {base : Nat} {spare : Nat → Bool} {held : Bool} {α : Type} {f : α → DataW H} {g : α → Value} {t e : TypeId} {N : Nat} (ht : P.underlying t = some (.array N e)) (hc : P.cellsOf e = 1) (hN : P.cellsOf t = N)
  (hcell : ∀ fuel cs y a, DataW.trod enc P w base spare held fuel e cs = some y → y.1 = f a → cs = [g a]) {fuel : Nat} {cs : List Value} {l : List α} {ps : List MemPlace} (h : DataW.trod enc P w base spare held fuel t cs = some (.agg (l.map f), ps)) : cs = l.map g := by
 obtain ⟨xs, m, _, hx, hl, hn, hel⟩ := DataW.trod_array ht h
 simp only [Prod.mk.injEq, DataW.agg.injEq] at hx
 have hlen : l.length = xs.length := by simpa using congrArg List.length hx.1
 apply List.ext_getElem
 ·rw [List.length_map, hl, hN]; omega
 ·intro i h1 h2
  have h3 : i < xs.length := by rw [List.length_map] at h2; omega
  have h4 := hel i (by omega)
  rw [hc, Nat.mul_one, List.getElem?_eq_getElem h3] at h4
  have h5 : (xs[i]).1 = f (l[i]'(by omega)) := by
   have := congrArg (fun q => q[i]?) hx.1
   simp only [List.getElem?_map] at this
   rw [List.getElem?_eq_getElem h3, List.getElem?_eq_getElem (by omega : i < l.length)] at this
   simpa using this.symm
  have h6 := hcell _ _ _ _ h4 h5
  rw [List.getElem_map]
  have h7 : (cs.drop i).take 1 = [cs[i]] := by rw [List.drop_eq_getElem_cons h1]; rfl
  rw [h7] at h6
  exact (List.cons.inj h6).1
theorem wo {W : World} {g : Nat} : ∀ {vs : List Value} {o : Nat}, (∀ v ∈ vs, v.oneCell' = true) → (∀ i v, vs[i]? = some v → W.cell? ⟨g, o + i, none⟩ = some v) → Cells W (fun _ => False) g o (vs.map G.lit)
 | [], _, _, _ => trivial
 | v :: vs, o, h1, h2 => ⟨⟨v, by simpa using h2 0 v rfl, rfl, h1 v (List.mem_cons_self ..)⟩, wo (fun u hu => h1 u (List.mem_cons_of_mem _ hu)) fun i u hu => by
   have := h2 (i + 1) u (by simpa using hu)
   rw [show o + 1 + i = o + (i + 1) by omega]; exact this⟩
theorem qhn {W : World} (h : laidMetH Tryz.prog laid2 W) : GlOk (EG glT) W (fun _ => False) := by
 rw [MakeChecks.laidMetH_plain _ _ _ (by kernel_rfl)] at h
 obtain ⟨ps, ⟨g0, t0, cs0, f0, p0, q0, hg0, ht0, hv0, hd0, ⟨g1, t1, cs1, f1, p1, q1, hg1, ht1, hv1, hd1, _, _⟩, _⟩, _, _⟩ := h
 obtain rfl := Option.some.inj (gLen.symm.trans hg0)
 obtain rfl := Option.some.inj (gSta.symm.trans hg1)
 obtain rfl := Option.some.inj (tLen.symm.trans ht0)
 obtain rfl := Option.some.inj (tSta.symm.trans ht1)
 have e0 : cs0.toList = Sim.lengthCells := by
  refine qhm (α := Int) (f := fun n => .lit (.int .i64 n)) (g := fun n => .int .i64 n) (l := [31, 28, 31, 30, 31, 30, 31, 31, 30, 31, 30, 31]) uLen (by kernel_rfl) (by kernel_rfl) ?_ hd0
  intro fuel cs y a hy ha
  obtain ⟨n, rfl, rfl, _⟩ := DataW.trod_int Tryz.underlying3 hy
  simp at ha; rw [ha]
 have e1 : cs1.toList = Sim.statusCells := by
  refine qhm (α := List UInt8) (f := fun n => .lit (.string n)) (g := fun n => Sim.sv n) (l := [[114, 101, 116, 117, 114, 110, 101, 100], [102, 108, 111, 119, 110], [101, 120, 99, 117, 115, 101, 100], [109, 105, 115, 115, 101, 100]]) uSta (by kernel_rfl) (by kernel_rfl) ?_ hd1
  intro fuel cs y a hy ha
  obtain ⟨s, rfl, rfl, _⟩ := DataW.trod_string Tryz.underlying9 hy
  simp at ha
  unfold Sim.sv
  rw [← ha]
 have c0 := fun i => World.var?_cell hg0 hv0 i
 have c1 := fun i => World.var?_cell hg1 hv1 i
 intro g vs hgv
 have hgv : (g, vs) = (0, Sim.statusCells) ∨ (g, vs) = (1, Sim.lengthCells) := by simpa [EG, glT] using hgv
 rcases hgv with hgv | hgv
 ·cases hgv
  refine ⟨⟨fun h => h, ?_⟩, wo (by unfold Sim.statusCells Sim.sv; intro v hv; simp at hv; rcases hv with rfl | rfl | rfl | rfl <;> rfl) fun i v hv => ?_⟩
  ·have := c1 0
   rw [← Array.getElem?_toList, e1] at this
   exact Go.block_lt_of_cell (a := ⟨0, 0, none⟩) this
  ·rw [Nat.zero_add, c1 i, ← Array.getElem?_toList, e1]; exact hv
 ·cases hgv
  refine ⟨⟨fun h => h, ?_⟩, wo (by unfold Sim.lengthCells; intro v hv; obtain ⟨n, _, rfl⟩ := List.mem_map.1 hv; rfl) fun i v hv => ?_⟩
  ·have := c0 0
   rw [← Array.getElem?_toList, e0] at this
   exact Go.block_lt_of_cell (a := ⟨1, 0, none⟩) this
  ·rw [Nat.zero_add, c0 i, ← Array.getElem?_toList, e0]; exact hv
end Go.Proofs.YtdfgeoefbbkcnaaGreatDoor
namespace Go.Proofs.YtdfgeoefbbkcnaaGreatDoor
open Go.ChangeShapes Go.WideShapes Go.ChangeAt Go.WideMaps Go.WideElems Go.RowKit
open Go.Sim (EG glT GlOk Cells G Grow)
set_option maxRecDepth 100000 in
theorem qpm (os : Os) (args : Array Value) : laidMetH Tryz.prog laid2 ((World.doorLaid Tryz.prog 400 os).forCall (fun _ _ => 0) ⟨#[], args, []⟩).memory := by
 rw [MakeChecks.laidMetH_plain _ _ _ (by kernel_rfl)]
 refine laidMet_of_run' 8 ?_ ?_
 ·kernel_rfl
 ·kernel_rfl
theorem qb3 {H : Type} {enc : TypeId × Value → H} {P : Program} (hl : laidOutB P = true) {W W' : World} (hb : Below W.heap.size W W') : ∀ {ts : List TypeId} {vs : List Value} {ds : List (DataW H)} {ps : List MemPlace}, (∀ t ∈ ts, P.readableRec t = true ∧ t < P.types.size) → (∀ x ∈ ps, x.block < W.heap.size) →
  DataW.TrodAll enc P W 0 (fun _ => true) true ts vs ds ps → DataW.TrodAll enc P W' 0 (fun b => decide (b < W.heap.size)) true ts vs ds ps
 | [], [], [], _, _, _, h => h
 | t :: ts, v :: vs, d :: ds, ps, ht, hp, ⟨p, q, h1, h2, h3⟩ => by
  subst h3
  have := ht t (List.mem_cons_self ..)
  exact ⟨p, q, Below.trod hl this.1 this.2 h1 hb fun x hx => hp x (List.mem_append_left _ hx), qb3 hl hb (fun t h => ht t (List.mem_cons_of_mem _ h)) (fun x hx => hp x (List.mem_append_right _ hx)) h2, rfl⟩
 | [], _ :: _, _, _, _, _, h => h.elim
 | [], [], _ :: _, _, _, _, h => h.elim
 | _ :: _, [], _, _, _, _, h => h.elim
 | _ :: _, _ :: _, [], _, _, _, h => h.elim
theorem qpn {H : Type} {enc : TypeId × Value → H} {P : Program} (hl : laidOutB P = true) {f : Func} {s : ChangeSpec} {W W' : World} {args : Array Value} {ds gs : List (DataW H)} {before : List MemPlace} (ht4 : P.underlying 4 = some .bool)
  (hW : DataW.Whole enc P f.params.toList s.vars false W args.toList ds gs before) (hvars : s.vars = []) (hres : f.resultTypes = #[4]) (hts : ∀ t ∈ f.params.toList, P.readableRec t = true ∧ t < P.types.size)
  (hs : s.fn H (ds ++ gs) = { results := [.lit (.bool true)], args := ds }) (hg : Below W.heap.size W W') : s.post enc P f false true false false W args (.bool true) W' := by
 have hW' := hW
 obtain ⟨p, q, hA, hV, hb, _, _⟩ := hW
 rw [hvars] at hV
 obtain ⟨rfl, rfl⟩ := trodVars_none hV
 rw [List.append_nil] at hb
 subst hb
 have hlt : ∀ x ∈ before, x.block < W.heap.size := fun x hx => hW'.lt x hx
 refine ⟨_, _, _, [], before, [], hW', ?_, ?_, ?_, hg.frame _, fun h => by cases h⟩
 ·rw [hs, hres]
  exact trodAll_mk1 (shut_bool ht4 _)
 ·rw [hs]
  exact qb3 hl hg hts hlt hA
 ·rw [hs, hvars]; rfl
end Go.Proofs.YtdfgeoefbbkcnaaGreatDoor
namespace Go.Proofs.YtdfgeoefbbkcnaaGreatDoor
open Go.ChangeShapes Go.WideShapes Go.ChangeAt Go.WideMaps Go.WideElems Go.RowKit
open Go.Sim
theorem sh24 : shOf Tryz.prog 9 24 = some [.int, .int, .int, .int, .sl [.str], .int, .int] := by kernel_rfl
theorem qwv : shOf Tryz.prog 9 152 = some [.str, .int, .str] := by kernel_rfl
theorem qww : shOf Tryz.prog 9 105 = some [.str, .str, .int, .str, .int, .int, .str, .int] := by kernel_rfl
theorem qvm {gs : List G} (h : Is [.str] gs) : ∃ s, gs = cStr s := by
 cases h with
 | str s h => cases h; exact ⟨s, rfl⟩
theorem qvn {gs : List G} (h : Is [.int, .int, .int, .int, .sl [.str], .int, .int] gs) : ∃ x : S23, gs = [G.int x.Before, G.int x.After, G.int x.Notice, G.int x.Share, G.sl 1 (List.map cStr x.Causes), G.int x.Off, G.int x.Run] := by
 cases h with
 | int n1 h => cases h with
  | int n2 h => cases h with
   | int n3 h => cases h with
    | int n4 h => cases h with
     | sl hk hx h => cases h with
      | int n5 h => cases h with
       | int n6 h =>
        cases h
        subst hk
        obtain ⟨l, rfl⟩ := qfd fun c hc => qvm (hx c hc)
        exact ⟨⟨n1, n2, n3, n4, l, n5, n6⟩, rfl⟩
theorem qs9 {gs : List G} (h : Is [.str, .int, .str] gs) : ∃ x : S151, gs = x.c := by
 cases h with
 | str n1 h => cases h with
  | int n2 h => cases h with
   | str n3 h => cases h; exact ⟨⟨n1, n2, n3⟩, rfl⟩
theorem qta {gs : List G} (h : Is [.str, .str, .int, .str, .int, .int, .str, .int] gs) : ∃ x : S104, gs = x.c := by
 cases h with
 | str n1 h => cases h with
  | str n2 h => cases h with
   | int n3 h => cases h with
    | str n4 h => cases h with
     | int n5 h => cases h with
      | int n6 h => cases h with
       | str n7 h => cases h with
        | int n8 h => cases h; exact ⟨⟨n1, n2, n3, n4, n5, n6, n7, n8⟩, rfl⟩
end Go.Proofs.YtdfgeoefbbkcnaaGreatDoor
