/-
  What is proved: lemmas and contracts of functions on the way to the law topChockSent (part 8).
-/
import Derived.Test.YtlgimmdbgbofgaaGreatDoorVrA7
import Derived.Test.YtlgimmdbgbofgaaGreatDoorVrA3
import Derived.Test.YtlgimmdbgbofgaaGreatDoorVrA6
import Derived.RangeFuncBound
import Derived.Test.YtlgimmdbgbofgaaGreatDoorVrA5
set_option linter.unusedSectionVars false
set_option linter.unusedSimpArgs false
set_option linter.unusedVariables false
set_option linter.unnecessarySimpa false
set_option linter.deprecated false
namespace Go.Sim
open Go.Proofs Go.Lib
abbrev bReq : ByteArray := ⟨#[82, 69, 81]⟩
structure MOk (a : S6051) : Prop where
 kind : a.Kind = (⟨#[82, 69, 81]⟩ : ByteArray)
 air : a.Airport = (⟨#[104, 101, 114, 101]⟩ : ByteArray)
 sea : a.Season = (⟨#[83, 50, 48, 50, 52]⟩ : ByteArray)
 d0 : 0 ≤ a.Day
 d1 : a.Day ≤ 1000
 len : a.Lines.length ≤ 40
 act : ∀ l ∈ a.Lines, l.Action = (⟨#[78]⟩ : ByteArray) ∨ l.Action = (⟨#[68]⟩ : ByteArray)
 rq : ∀ l ∈ a.Lines, RqOk l.Request
theorem MOk.lp {a : S6051} (h : MOk a) {l : S6034} (hl : l ∈ a.Lines) : LineP l :=
 linep_of (by rcases h.act l hl with e | e <;> rw [e] <;> first | exact act_N | exact act_D) (h.rq l hl)
theorem MOk.lr {a : S6051} (h : MOk a) (k : Nat) (l : S6034) (hl : a.Lines[k]? = some l) : LineR l := (h.lp (List.mem_of_getElem? hl)).toLineR
def hdrB (a : S6051) : ByteArray := (⟨#[83, 76, 79, 84, 83, 32]⟩ : ByteArray) ++ a.Kind ++ (⟨#[32]⟩ : ByteArray) ++ a.Airport ++ (⟨#[32]⟩ : ByteArray) ++ a.Season ++ (⟨#[32]⟩ : ByteArray) ++ s6084 a.Day 5 ++ (⟨#[10]⟩ : ByteArray)
def lnB (l : S6034) : ByteArray := s6029 l ++ (⟨#[10]⟩ : ByteArray)
def endB (n : Nat) : ByteArray := (⟨#[69, 78, 68, 32]⟩ : ByteArray) ++ s6084 (n : Int) 2 ++ (⟨#[10]⟩ : ByteArray)
def pmK (a : S6051) (k : Nat) : List UInt8 := (hdrB a).data.toList ++ ((a.Lines.take k).map fun l => (lnB l).data.toList).flatten
def pmL (a : S6051) : List UInt8 := pmK a a.Lines.length ++ (endB a.Lines.length).data.toList
theorem ba_app (a b : ByteArray) : (a ++ b).data.toList = a.data.toList ++ b.data.toList := by simp
theorem ba_size (a : ByteArray) : a.size = a.data.toList.length := rfl
theorem hdr_size {a : S6051} (h : MOk a) : (hdrB a).size = 27 := by
 have h1 := s6084_size (n := a.Day) (w := 5) h.d0 (by have := h.d1; show a.Day < 100000; omega) (by decide);unfold hdrB;rw [h.kind, h.air, h.sea];simp only [ByteArray.size_append, h1]
 rfl
theorem end_size {n : Nat} (h : n ≤ 40) : (endB n).size = 7 := by
 have h1 := s6084_size (n := (n : Int)) (w := 2) (by omega) (by show (n : Int) < 100; omega) (by decide);unfold endB;simp only [ByteArray.size_append, h1]
 rfl
theorem ln_size {a : S6051} (h : MOk a) {k : Nat} {l : S6034} (hl : a.Lines[k]? = some l) : (s6029 l).size ≤ 350 := by
 have hm := List.mem_of_getElem? hl;exact line_size (by rcases h.act l hm with e | e <;> rw [e] <;> first | exact act_N | exact act_D) (h.rq l hm)
theorem pmK_zero (a : S6051) : pmK a 0 = [] ++ (hdrB a).data.toList := by simp [pmK]
theorem pmK_succ {a : S6051} {k : Nat} {l : S6034} (hl : a.Lines[k]? = some l) : pmK a (k + 1) = pmK a k ++ (s6029 l ++ (⟨#[10]⟩ : ByteArray)).data.toList := by
 unfold pmK;rw [List.take_add_one, hl]
 simp [lnB]
theorem pmK_len {a : S6051} (h : MOk a) : ∀ k, (pmK a k).length ≤ 27 + 351 * k
 | 0 => by rw [pmK_zero, List.nil_append, ← ba_size, hdr_size h]; omega
 | k + 1 => by
  have ih := pmK_len h k
  cases hl : a.Lines[k]? with
  | some l =>
   rw [pmK_succ hl, List.length_append, ← ba_size, ByteArray.size_append];have := ln_size h hl;have e : (⟨#[10]⟩ : ByteArray).size = 1 := rfl
   omega
  | none =>
   have : pmK a (k + 1) = pmK a k := by
    unfold pmK;rw [List.take_add_one, hl]; simp
   rw [this]; omega
theorem pmL_ne (a : S6051) : pmL a ≠ [] := by
 intro h;have := congrArg List.length h;unfold pmL at this;rw [List.length_append, ← ba_size] at this;unfold endB at this;simp only [ByteArray.size_append, List.length_nil] at this;have e : (⟨#[10]⟩ : ByteArray).size = 1 := rfl
 omega
theorem MOk.ks {a : S6051} (h : MOk a) : a.Kind.size = 3 := by rw [h.kind]; rfl
theorem MOk.as {a : S6051} (h : MOk a) : a.Airport.size = 4 := by rw [h.air]; rfl
theorem MOk.ss {a : S6051} (h : MOk a) : a.Season.size = 5 := by rw [h.sea]; rfl
theorem MOk.ds {a : S6051} (h : MOk a) : (s6084 a.Day 5).size = 5 := s6084_size (n := a.Day) (w := 5) h.d0 (by have := h.d1; show a.Day < 100000; omega) (by decide)
theorem MOk.es {a : S6051} (h : MOk a) : (s6084 (a.Lines.length : Int) 2).size = 2 := s6084_size (n := (a.Lines.length : Int)) (w := 2) (by omega) (by have := h.len; show (a.Lines.length : Int) < 100; omega) (by decide)
theorem hdr_pos {a : S6051} (h : MOk a) : 0 < (hdrB a).size := by rw [hdr_size h]; decide
theorem hdr_len {a : S6051} (h : MOk a) : ([] : List UInt8).length + (hdrB a).size ≤ 140737488355328 := by rw [hdr_size h]; decide
theorem pm_wlen {a : S6051} (h : MOk a) {k : Nat} {x : List UInt8} {l : S6034} (hx : x = pmK a k) (hl : a.Lines[k]? = some l) : x.length + (s6029 l ++ (⟨#[10]⟩ : ByteArray)).size ≤ 140737488355328 := by
 have h1 := pmK_len h k;have h2 := ln_size h hl;have h3 := h.len;have h4 := (List.getElem?_eq_some_iff.1 hl).1;have e : (⟨#[10]⟩ : ByteArray).size = 1 := rfl;rw [hx, ByteArray.size_append]; omega
theorem pm_lsz {a : S6051} (h : MOk a) {k : Nat} {l : S6034} (hl : a.Lines[k]? = some l) : (s6029 l).size + (⟨#[10]⟩ : ByteArray).size ≤ 9223372036854775807 := by
 have h2 := ln_size h hl;have e : (⟨#[10]⟩ : ByteArray).size = 1 := rfl
 omega
theorem pm_step {a : S6051} {k : Nat} {x : List UInt8} {l : S6034} (hx : x = pmK a k) (hl : a.Lines[k]? = some l) : x ++ (s6029 l ++ (⟨#[10]⟩ : ByteArray)).data.toList = pmK a (k + 1) := by rw [pmK_succ hl, hx]
theorem pmK_all {a : S6051} {k : Nat} (hk : ¬ ((k : Nat) : Int) < (a.Lines.length : Int)) : pmK a k = pmK a a.Lines.length := by
 unfold pmK;rw [List.take_of_length_le (by omega), List.take_length]
theorem end_pos {a : S6051} (h : MOk a) : 0 < (endB a.Lines.length).size := by rw [end_size h.len]; decide
theorem end_len {a : S6051} (h : MOk a) {k : Nat} {x : List UInt8} (hx : x = pmK a k) (hk : ¬ ((k : Nat) : Int) < (a.Lines.length : Int)) : x.length + (endB a.Lines.length).size ≤ 140737488355328 := by
 have h1 := pmK_len h a.Lines.length;have h3 := h.len;rw [hx, pmK_all hk, end_size h.len]; omega
theorem pm_end {a : S6051} {k : Nat} {x : List UInt8} (hx : x = pmK a k) (hk : ¬ ((k : Nat) : Int) < (a.Lines.length : Int)) : x ++ (endB a.Lines.length).data.toList = pmL a := by
 rw [hx, pmK_all hk]; rfl
theorem pm_ne {a : S6051} {k : Nat} {x : List UInt8} (hx : x = pmK a k) (hk : ¬ ((k : Nat) : Int) < (a.Lines.length : Int)) : x ++ (endB a.Lines.length).data.toList ≠ [] := by
 rw [pm_end hx hk]; exact pmL_ne a
theorem s6028_zero {a : S6051} (h : MOk a) {l : S6034} (hl : l ∈ a.Lines) : s6028 l = 0 := (h.lp hl).ok
theorem get_in {a : S6051} (h : MOk a) {k : Nat} (hk : k < a.Lines.length) : ∃ y, ixO a.Lines (k : Int) = some y ∧ y ∈ a.Lines := ⟨a.Lines[k], by
 unfold ixO;rw [show decide (0 ≤ (k : Int)) = true by simp, Int.toNat_natCast]
 exact List.getElem?_eq_getElem hk, List.getElem_mem hk⟩
theorem lines_ok {a : S6051} (h : MOk a) : ∀ (l : List S6034) (k : Nat), a.Lines.drop k = l → s6089_l1 bReq a.Lines l k = some (0, 0)
 | [], k, hd => by
  unfold s6089_l1;have hl := h.len
  by_cases h0 : 0 < a.Lines.length
  ·obtain ⟨y, hy, hm⟩ := get_in h (k := a.Lines.length - 1) (by omega)
   have e : IntKind.i64.wrap ((a.Lines.length : Int) - 1) = ((a.Lines.length - 1 : Nat) : Int) := by
    have : I64 ((a.Lines.length : Int) - 1) := by unfold I64; omega
    rw [wrap_i64 this]; omega
   rw [e, hy, show decide (0 < (a.Lines.length : Int)) = true by simpa using h0];show (bif true && decide (y.Action = _) then _ else some ((0 : Int), (0 : Int))) = _;rw [show decide (y.Action = (⟨#[67]⟩ : ByteArray)) = false by rcases h.act y hm with e | e <;> rw [e] <;> decide]
   rfl
  ·rw [show decide (0 < (a.Lines.length : Int)) = false from decide_eq_false (by omega)]
   rfl
 | y :: t, k, hd => by
  have hk : a.Lines[k]? = some y := by
   have := congrArg (·[0]?) hd
   simpa using this
  have hlt : k < a.Lines.length := (List.getElem?_eq_some_iff.1 hk).1;have hy := List.mem_of_getElem? hk;have hl := h.len
  have hd' : a.Lines.drop (k + 1) = t := by
   rw [← List.tail_drop, hd]; rfl
  have ih := lines_ok h t (k + 1) hd';have e28 := s6028_zero h hy
  have nC : ∀ z ∈ a.Lines, decide (z.Action = (⟨#[67]⟩ : ByteArray)) = false := fun z hz => by rcases h.act z hz with e | e <;> rw [e] <;> decide
  have nR : decide (y.Action = (⟨#[82]⟩ : ByteArray)) = false := by rcases h.act y hy with e | e <;> rw [e] <;> decide
  have hmg : mgetD s6091 y.Action ByteArray.empty = bReq := by rcases h.act y hy with e | e <;> rw [e] <;> decide +kernel
  obtain ⟨z, hz, hzC⟩ : ∃ z, (bif decide (0 < ((k : Nat) : Int)) then ixO a.Lines (IntKind.i64.wrap (((k : Nat) : Int) - 1)) else some default) = some z ∧ (decide (0 < ((k : Nat) : Int)) && decide (z.Action = (⟨#[67]⟩ : ByteArray))) = false := by
   by_cases h0 : 0 < k
   ·obtain ⟨z, hz, hm⟩ := get_in h (k := k - 1) (by omega)
    have e : IntKind.i64.wrap ((k : Int) - 1) = ((k - 1 : Nat) : Int) := by
     have : I64 ((k : Int) - 1) := by unfold I64; omega
     rw [wrap_i64 this]; omega
    refine ⟨z, ?_, by rw [nC z hm]; simp⟩;rw [e, show decide (0 < (k : Int)) = true by simpa using h0];exact hz
   ·refine ⟨default, ?_, ?_⟩ <;> rw [show decide (0 < (k : Int)) = false from decide_eq_false (by omega)] <;> rfl
  unfold s6089_l1;rw [hz];simp only [bindO, hzC, nR, Bool.false_and, Bool.or_false, Bool.not_false, e28, hmg, cond_false, decide_true, Bool.not_true];exact ih
theorem msg_ok {a : S6051} (h : MOk a) : s6083 a = some 0 := by
 have hl := h.len;have hd := h.d1;have hd0 := h.d0
 have e1 : s6108 a.Airport a.Season a.Day = some 0 := by
  have e2 : s6122 a.Season = some true := by rw [h.sea]; decide +kernel
  have e3 : s4083 a.Airport = 0 := by rw [h.air]; decide +kernel
  have e4 : s4087 a.Day 0 99999 = 0 := by
   unfold s4087;rw [show decide (a.Day < 0) = false from decide_eq_false (by omega), show decide (99999 < a.Day) = false from decide_eq_false (by omega)]; rfl
  unfold s6108;rw [e2, e3, e4]; rfl
 unfold s6083;rw [e1, show s6107 a.Kind = true by rw [h.kind]; decide +kernel, show decide (64 < (a.Lines.length : Int)) = false from decide_eq_false (by omega)];show (bindO (s6089 a.Kind a.Lines) fun r2 => some r2.2) = some 0;unfold s6089;rw [h.kind, lines_ok h a.Lines 0 rfl]; rfl
end Go.Sim
set_option maxRecDepth 10000
namespace Go.Sim
open Go.Proofs
theorem c6038 {g : GL} [GlR g] (a0 : S6051) (T : ByteArray) (hM : MOk a0) (hT : T = ⟨(pmL a0).toArray⟩) : Con (EG g) 38 [G.agg [G.str a0.Kind, G.str a0.Airport, G.str a0.Season, G.int a0.Day, G.sl 14 (List.map S6034.c a0.Lines)]] (G.tup [G.str T, G.int 0]) := by
 refine con_of_aw Tryz.func38 rfl rfl fun w0 M0 => ?_;refine aw_seq ?_;refine aw_region [.p, .p, .p] ?_;refine su (eff_box rfl rfl) rfl ?_;refine sa rfl rfl ?_;refine sa rfl rfl ?_;refine st_nil ?_;refine aw_weak (l := [(1, .g (G.ref [G.str a0.Kind, G.str a0.Airport, G.str a0.Season, G.int a0.Day, G.sl 14 (List.map S6034.c a0.Lines)]))]) (m := []) ⟨rfl, trivial⟩ trivial rfl ?_;refine aw_seq ?_;refine aw_seq ?_;refine aw_region [.p, .p, .p] ?_;refine su (eff_loadA rfl ty6052 rfl rfl rfl) rfl ?_;refine su (eff_call rfl K6083 rfl (c6083 a0 (msg_ok hM)) (ag_cons rfl ag_nil)) rfl ?_;refine sa rfl rfl ?_;refine st_nil ?_;refine aw_weak (l := [(1, .g (G.ref [G.str a0.Kind, G.str a0.Airport, G.str a0.Season, G.int a0.Day, G.sl 14 (List.map S6034.c a0.Lines)])), (4, .g (G.int 0))]) (m := []) ⟨rfl, rfl, trivial⟩ trivial rfl ?_;refine aw_seq ?_;refine aw_region [.p, .p] ?_;refine sm rfl rfl ?_;refine su (eff_neq rfl rfl rfl) rfl ?_;refine st_nil ?_;refine aw_weak (l := [(1, .g (G.ref [G.str a0.Kind, G.str a0.Airport, G.str a0.Season, G.int a0.Day, G.sl 14 (List.map S6034.c a0.Lines)])), (4, .g (G.int 0)), (12, .g (G.bool (decide ((0 : Int) ≠ 0))))]) (m := []) ⟨rfl, rfl, rfl, trivial⟩ trivial rfl ?_;refine aw_cond _ rfl (fun h_ => absurd h_ (by decide)) (fun _ => ?_);refine aw_skip ?_;refine aw_seq ?_;refine aw_region [.w] ?_;refine sw (eff_bldAlloc 5 3005 rfl rfl (by decide) rfl rfl) rfl ?_;refine st_nil ?_;refine aw_weak (l := [(1, .g (G.ref [G.str a0.Kind, G.str a0.Airport, G.str a0.Season, G.int a0.Day, G.sl 14 (List.map S6034.c a0.Lines)])), (5, .ptr 5 0)]) (m := [(5, .tbox 111 [.g (.lit (.pointer none)), .osl 3005 1 0 (List.length ([] : List UInt8))]), (3005, .buf 5 ([] : List UInt8))]) ⟨rfl, rfl, trivial⟩ ⟨rfl, rfl, trivial⟩ rfl ?_;refine aw_seq ?_;refine aw_region [.p, .p] ?_;refine su (eff_fnpA rfl rfl) rfl ?_;refine su (eff_assignF rfl rfl) rfl ?_;refine st_nil ?_;refine aw_weak (l := [(1, .g (G.ref [G.str a0.Kind, G.str a0.Airport, G.str a0.Season, G.int a0.Day, G.sl 14 (List.map S6034.c a0.Lines)])), (5, .ptr 5 0), (6, .fnp 77 true 5)]) (m := [(5, .tbox 111 [.g (.lit (.pointer none)), .osl 3005 1 0 (List.length ([] : List UInt8))]), (3005, .buf 5 ([] : List UInt8))]) ⟨rfl, rfl, rfl, trivial⟩ ⟨rfl, rfl, trivial⟩ rfl ?_;refine aw_seq ?_;refine aw_draw2 [.pn 3005, .pn 3005, .pn 3005, .pn 3005, .pn 3005, .pn 3005, .pn 3005, .pn 3005, .pn 3005, .pn 3005, .pn 3005, .pn 3005, .pn 3005, .pn 3005, .pn 3005, .pn 3005, .pn 3005, .pn 3005, .kn 3005] (by kernel_rfl) ?_;refine st_pn rfl rfl (eff_moveF rfl rfl) rfl rfl rfl ?_;refine st_pn rfl rfl (eff_fieldAddr rfl fl6052_0 rfl) rfl rfl rfl ?_;refine st_pn rfl rfl (eff_load rfl ty9 rfl) rfl rfl rfl ?_;refine st_pn rfl rfl (eff_scat rfl rfl rfl (by simp only [ByteArray.size_append, hM.ks, hM.as, hM.ss, hM.ds]; decide)) rfl rfl rfl ?_;refine st_pn rfl rfl (eff_scat rfl rfl rfl (by simp only [ByteArray.size_append, hM.ks, hM.as, hM.ss, hM.ds]; decide)) rfl rfl rfl ?_;refine st_pn rfl rfl (eff_fieldAddr rfl fl6052_1 rfl) rfl rfl rfl ?_;refine st_pn rfl rfl (eff_load rfl ty9 rfl) rfl rfl rfl ?_;refine st_pn rfl rfl (eff_scat rfl rfl rfl (by simp only [ByteArray.size_append, hM.ks, hM.as, hM.ss, hM.ds]; decide)) rfl rfl rfl ?_;refine st_pn rfl rfl (eff_scat rfl rfl rfl (by simp only [ByteArray.size_append, hM.ks, hM.as, hM.ss, hM.ds]; decide)) rfl rfl rfl ?_;refine st_pn rfl rfl (eff_fieldAddr rfl fl6052_2 rfl) rfl rfl rfl ?_;refine st_pn rfl rfl (eff_load rfl ty9 rfl) rfl rfl rfl ?_;refine st_pn rfl rfl (eff_scat rfl rfl rfl (by simp only [ByteArray.size_append, hM.ks, hM.as, hM.ss, hM.ds]; decide)) rfl rfl rfl ?_;refine st_pn rfl rfl (eff_scat rfl rfl rfl (by simp only [ByteArray.size_append, hM.ks, hM.as, hM.ss, hM.ds]; decide)) rfl rfl rfl ?_;refine st_pn rfl rfl (eff_fieldAddr rfl fl6052_3 rfl) rfl rfl rfl ?_;refine st_pn rfl rfl (eff_load rfl ty3 rfl) rfl rfl rfl ?_;refine st_pn rfl rfl (eff_call rfl K6084 rfl (c6084 a0.Day 5 (by have := hM.d0; omega) (by have := hM.d1; have := hM.len; omega) (by decide) (by decide)) (ag_cons rfl (ag_cons rfl ag_nil))) rfl rfl rfl ?_;refine st_pn rfl rfl (eff_scat rfl rfl rfl (by simp only [ByteArray.size_append, hM.ks, hM.as, hM.ss, hM.ds]; decide)) rfl rfl rfl ?_;refine st_pn rfl rfl (eff_scat rfl rfl rfl (by simp only [ByteArray.size_append, hM.ks, hM.as, hM.ss, hM.ds]; decide)) rfl rfl rfl ?_;refine st_kn rfl rfl (eff_write (s := hdrB a0) (bs := ([] : List UInt8)) 5 3005 rfl rfl rfl rfl rfl rfl rfl (.inl rfl) (hdr_pos hM) (hdr_len hM) (by decide) (refsM rfl) rfl) rfl ?_ (sameTb_bld 5 rfl rfl);refine st_nil ?_;refine aw_weak (l := [(1, .g (G.ref [G.str a0.Kind, G.str a0.Airport, G.str a0.Season, G.int a0.Day, G.sl 14 (List.map S6034.c a0.Lines)])), (5, .ptr 5 0), (6, .fnp 77 true 5)]) (m := [(5, .tbox 111 [.ptr 5 0, .osl 3005 1 0 (List.length (([] : List UInt8) ++ (ByteArray.data (hdrB a0)).toList))]), (3005, .buf 5 (([] : List UInt8) ++ (ByteArray.data (hdrB a0)).toList))]) ⟨rfl, rfl, rfl, trivial⟩ ⟨rfl, rfl, trivial⟩ rfl ?_;refine aw_seq ?_;refine aw_seq ?_;refine aw_region [.p, .p, .p, .p] ?_;refine su (eff_fieldAddr rfl fl6052_4 rfl) rfl ?_;refine su (eff_load rfl ty6050 rfl) rfl ?_;refine su (eff_lenM (f := S6034.c) (l := a0.Lines) rfl Tryz.underlying50 rfl) rfl ?_;refine sm rfl rfl ?_;refine st_nil ?_;refine aw_weak (l := [(1, .g (G.ref [G.str a0.Kind, G.str a0.Airport, G.str a0.Season, G.int a0.Day, G.sl 14 (List.map S6034.c a0.Lines)])), (5, .ptr 5 0), (6, .fnp 77 true 5), (35, .g (G.sl 14 (List.map S6034.c a0.Lines))), (36, .g (G.int (List.length a0.Lines : Int))), (37, .g (G.int 0))]) (m := [(5, .tbox 111 [.ptr 5 0, .osl 3005 1 0 (List.length (([] : List UInt8) ++ (ByteArray.data (hdrB a0)).toList))]), (3005, .buf 5 (([] : List UInt8) ++ (ByteArray.data (hdrB a0)).toList))]) jA ⟨rfl, rfl, trivial⟩ rfl ?_;refine aw_block ?_;refine aw_loop_g (γ := Nat × (List S6034) × (List UInt8)) (fun g => ([(1, .g (G.ref [G.str a0.Kind, G.str a0.Airport, G.str a0.Season, G.int a0.Day, G.sl 14 (List.map S6034.c a0.Lines)])), (5, .ptr 5 0), (6, .fnp 77 true 5), (35, .g (G.sl 14 (List.map S6034.c a0.Lines))), (36, .g (G.int (List.length a0.Lines : Int))), (37, .g (G.int ((g.1 : Nat) : Int)))], [(5, .tbox 111 [.ptr 5 0, .osl 3005 1 0 (List.length g.2.2)]), (3005, .buf 5 g.2.2)])) (fun g => g.2.2 = pmK a0 g.1 ∧ a0.Lines.drop g.1 = g.2.1) (fun g => List.length g.2.1) ⟨rfl, (0, a0.Lines, ([] : List UInt8) ++ (ByteArray.data (hdrB a0)).toList), jA, ⟨rfl, rfl, trivial⟩, rfl, ⟨(pmK_zero a0).symm, rfl⟩, trivial⟩ ?_
 ·rintro ⟨k3, u5, x2⟩ ⟨iv1_0, hd⟩;replace hd : a0.Lines.drop k3 = u5 := hd;replace iv1_0 : x2 = pmK a0 k3 := iv1_0;refine aw_seq ?_;refine aw_region [.p] ?_;refine su (eff_lss rfl rfl rfl) rfl ?_;refine st_nil ?_;refine len_sl (f := S6034.c) (l := a0.Lines) 35 rfl fun hlz1 => ?_;refine aw_seq ?_;refine aw_cond _ rfl (fun h2 => ?_) (fun h2 => ?_)
  ·replace h2 : (decide (((k3 : Nat) : Int) < (List.length a0.Lines : Int))) = true := h2;refine Exists.elim (drop_cons hd (decT h2)) (fun y4 hq_ => ?_);refine Exists.elim hq_ (fun t5 hqq_ => ?_);have et5 := hqq_.1;have hx1 := hqq_.2.1;replace hd := hqq_.2.2;clear hqq_ hq_;replace h2 := decT h2;refine aw_skip ?_;refine aw_seq ?_;refine aw_block ?_;refine aw_seq ?_;refine aw_region [.p, .p, .w, .w] ?_;refine su (eff_ix (f := S6034.c) (l := a0.Lines) (a := y4) rfl Tryz.underlying50 ty6035 rfl rfl (Int.natCast_nonneg _) hx1) rfl ?_;refine su (eff_loadA rfl ty6035 rfl rfl rfl) rfl ?_;refine sw (eff_alloc 8 rfl z6035 rfl rfl) rfl ?_;refine st_wn rfl rfl (eff_store (tv := .g (G.agg [G.str y4.Action, G.str y4.Request.Name, G.str y4.Request.Carrier, G.str y4.Request.Kind, G.str y4.Request.Terminal, G.str y4.Request.Partner, G.str y4.Request.Link, G.int y4.Request.Period.fFrom, G.int y4.Request.Period.fTo, G.int y4.Request.Period.Days, G.int y4.Request.Minute, G.int y4.Request.Seats, G.int y4.Request.Size, G.int y4.Request.Noise])) rfl ty6035 rfl rfl rfl rfl rfl) ?_;refine st_nil ?_;refine aw_weak (l := [(1, .g (G.ref [G.str a0.Kind, G.str a0.Airport, G.str a0.Season, G.int a0.Day, G.sl 14 (List.map S6034.c a0.Lines)])), (5, .ptr 5 0), (6, .fnp 77 true 5), (8, .ptr 8 0), (35, .g (G.sl 14 (List.map S6034.c a0.Lines))), (36, .g (G.int (List.length a0.Lines : Int))), (37, .g (G.int ((k3 : Nat) : Int)))]) (m := [(5, .tbox 111 [.ptr 5 0, .osl 3005 1 0 (List.length x2)]), (8, .box [.g (G.str y4.Action), .g (G.str y4.Request.Name), .g (G.str y4.Request.Carrier), .g (G.str y4.Request.Kind), .g (G.str y4.Request.Terminal), .g (G.str y4.Request.Partner), .g (G.str y4.Request.Link), .g (G.int y4.Request.Period.fFrom), .g (G.int y4.Request.Period.fTo), .g (G.int y4.Request.Period.Days), .g (G.int y4.Request.Minute), .g (G.int y4.Request.Seats), .g (G.int y4.Request.Size), .g (G.int y4.Request.Noise)]), (3005, .buf 5 x2)]) jA ⟨rfl, rfl, rfl, trivial⟩ rfl ?_;refine aw_region [.p, .r, .p, .p, .k] ?_;refine su (eff_moveF rfl rfl) rfl ?_;refine sr (eff_loadOA rfl ty6035 rfl rfl rfl rfl) rfl ?_;refine su (eff_call rfl K6029 rfl (c6029 y4 (hM.lr _ _ (by assumption))) (ag_cons rfl ag_nil)) rfl ?_;refine su (eff_scat rfl rfl rfl (pm_lsz hM (by assumption))) rfl ?_;refine st_k rfl rfl (eff_write (s := (s6029 y4) ++ (⟨#[10]⟩)) (bs := x2) 5 3005 rfl rfl rfl rfl rfl rfl rfl (.inr rfl) (by simp only [ByteArray.size_append]; have e1_ : ByteArray.size (⟨#[10]⟩ : ByteArray) = 1 := rfl; omega) (pm_wlen hM iv1_0 (by assumption)) (by decide) (refsM rfl) rfl) rfl ?_;refine st_nil ?_;refine aw_region [.p, .p] ?_;refine su (eff_add rfl rfl rfl iE) rfl ?_;refine sm rfl rfl ?_;refine st_nil ?_;exact ⟨rfl, (k3 + 1, t5, x2 ++ (ByteArray.data ((s6029 y4) ++ (⟨#[10]⟩))).toList), jA, ⟨rfl, rfl, trivial⟩, rfl, ⟨(pm_step iv1_0 (by assumption)), hd⟩, by simp [et5]⟩
  ·replace h2 : (decide (((k3 : Nat) : Int) < (List.length a0.Lines : Int))) = false := h2
   skip
   refine aw_exit ?_;refine aw_seq ?_;refine aw_region [.p, .p, .p, .p, .p, .p, .p, .k] ?_;refine su (eff_moveF rfl rfl) rfl ?_;refine su (eff_fieldAddr rfl fl6052_4 rfl) rfl ?_;refine su (eff_load rfl ty6050 rfl) rfl ?_;refine su (eff_lenM (f := S6034.c) (l := a0.Lines) rfl Tryz.underlying50 rfl) rfl ?_;refine su (eff_call rfl K6084 rfl (c6084 (List.length a0.Lines : Int) 2 (by have := hM.d0; omega) (by have := hM.d1; have := hM.len; omega) (by decide) (by decide)) (ag_cons rfl (ag_cons rfl ag_nil))) rfl ?_;refine su (eff_scat rfl rfl rfl (by simp only [ByteArray.size_append, hM.es]; decide)) rfl ?_;refine su (eff_scat rfl rfl rfl (by simp only [ByteArray.size_append, hM.es]; decide)) rfl ?_;refine st_k rfl rfl (eff_write (s := endB a0.Lines.length) (bs := x2) 5 3005 rfl rfl rfl rfl rfl rfl rfl (.inr rfl) (end_pos hM) (end_len hM iv1_0 (decF h2)) (by decide) (refsM rfl) rfl) rfl ?_;refine st_nil ?_;refine aw_weak (l := [(5, .ptr 5 0)]) (m := [(5, .tbox 111 [.ptr 5 0, .osl 3005 1 0 (List.length (x2 ++ (ByteArray.data (endB a0.Lines.length)).toList))]), (3005, .buf 5 (x2 ++ (ByteArray.data (endB a0.Lines.length)).toList))]) ⟨rfl, trivial⟩ ⟨rfl, rfl, trivial⟩ rfl ?_;refine aw_seq ?_;refine aw_region [.w, .p, .p] ?_;refine sw (eff_bldString (bs := x2 ++ (ByteArray.data (endB a0.Lines.length)).toList) (r := T) 5 3005 rfl rfl rfl rfl rfl rfl rfl (pm_ne iv1_0 (decF h2)) (by rw [hT]; exact congrArg (fun l => (⟨List.toArray l⟩ : ByteArray)) (pm_end iv1_0 (decF h2)).symm)) rfl ?_;refine sa rfl rfl ?_;refine sa rfl rfl ?_;refine st_nil ?_;refine aw_ret ?_;exact resN rfl ⟨rv_g rfl, rv_g rfl, trivial⟩ (by simp)
section
variable {E : Env} {w0 : World} {M0 : Nat → Prop}
end
section
variable {E : Env}
theorem rv_cell1 {s : ASt} {t : Nat} {ty : TypeId} {k id : Nat} {tv : TV} {g : G} (hp : s.get t = .ptr id 0) (hb : lookO s.mem id = some (.box [tv])) (ht : tyK E.P ty = some (k, false)) (hv : viewG s.mem tv = some g) (hbw : viewB E tv = true := by rfl) : RVal E s (.cell t ty) g := by
 intro w0 M0 ρ w tmps hm hx;have h1 := hx t;rw [hp] at h1;obtain ⟨ow, h2, h3⟩ := h1;obtain ⟨ow', e, vs, g1, g2, g3, g4⟩ := hm.blk id _ hb
 have : ow' = ow := by rw [h2] at g1; simpa using g1.symm
 subst this;obtain ⟨v, h4, h5, _⟩ := TFits.get 0 g4 rfl
 have hc : w.cell? ⟨ow'.b, ow'.o + 0, none⟩ = some v := by rw [cell_of_row w _ _ _ _ _ g3, g2]; simpa using h4
 refine ⟨v, ?_, view_rel hm h5 hv (msub_res hm hbw), ?_⟩
 ·simp only [rvSem, h3, asAddr, Sem.run_bind, Sem.run_pure, Result.andThen_ok];exact run_loadVar_one ht hc
 ·intro w' hw;simp only [rvSem, h3, asAddr, Sem.run_bind, Sem.run_pure, Result.andThen_ok];exact run_loadVar_one ht (hw _ _ hc)
end
section
structure NY where
 n : Nat → Prop
 y : Nat → Prop
def NY.no : NY := ⟨fun _ => False, fun _ => False⟩
theorem BelowX.none {L : Nat → Prop} {a b : World} (h : Grow a b) : BelowX L a b := BelowX.of_grow h
def MarksN (N : Nat → Prop) (ds : List Deferred) (W : World) : Prop := ds.Nodup ∧ ∀ d ∈ ds, ∃ D, d = { target := .collected D, args := #[] } ∧ N D ∧ W.heap[D]? = some (.deferred (some []))
variable {α : Type} {E : Env} {l : Nat} {enc : α → Value} {xs : List α}
end
section
variable {E : Env} {w0 : World} {M0 : Nat → Prop}
theorem lookO_append {α : Type} {id : Nat} : ∀ (A B : List (Nat × α)), lookO (A ++ B) id = (lookO A id).or (lookO B id)
 | [], _ => by simp [lookO]
 | (k, v) :: r, B => by
  simp only [List.cons_append, lookO]
  cases Nat.beq k id with
  | true => rfl
  | false => exact lookO_append r B
theorem lookO_flt {α : Type} {c id : Nat} : ∀ (l : List (Nat × α)), lookO (l.filter fun p => !Nat.beq p.1 c) id = if id = c then none else lookO l id
 | [] => by simp [lookO]
 | (k, v) :: r => by
  have ih := lookO_flt (c := c) (id := id) r;simp only [List.filter_cons]
  cases hk : Nat.beq k c with
  | true =>
   have := Nat.eq_of_beq_eq_true hk;subst this;simp only [Bool.not_true, Bool.false_eq_true, if_false, ih, lookO]
   by_cases h : id = k
   ·rw [if_pos h, if_pos h]
   ·rw [if_neg h, if_neg h]
    rw [show Nat.beq k id = false from by
     cases hb : Nat.beq k id with
     | true => exact absurd (Nat.eq_of_beq_eq_true hb).symm h
     | false => rfl]
    rfl
  | false =>
   simp only [Bool.not_false, if_true, lookO, ih]
   cases hb : Nat.beq k id with
   | true =>
    have := Nat.eq_of_beq_eq_true hb;subst this
    have hkc : k ≠ c := fun e => by subst e; rw [Nat.beq_refl] at hk; cases hk
    simp [hkc]
   | false => rfl
def lsO (o : Option (Nat × Nat)) (id : Nat) : Prop := ∃ kb, o = some (id, kb)
def Env.turnO (E : Env) (lp : Nat) (mem : Mem) (o : Option (Nat × Nat)) (x : Nat → Option Own) : Env := ⟨E.P, E.gl, E.orders, (match o with | none => mem.map fun p => (p.1, x p.1) | some (c, kb) => ((mem.filter fun p => !Nat.beq p.1 c).map fun p => (p.1, x p.1)) ++ [(kb, x c)]), some lp, false, E.nb⟩
theorem turnO_look {lp id : Nat} {o : Option (Nat × Nat)} {mem : Mem} {x : Nat → Option Own} {y : Option Own} (hok : ∀ c kb, o = some (c, kb) → (∃ b, lookO mem kb = some b) ∧ kb ≠ c) : lookO (E.turnO lp mem o x).bow id = some y ↔ ¬ lsO o id ∧ (∃ b, lookO mem id = some b) ∧ y = x id := by
 cases o with
 | none =>
  have : ¬ lsO none id := fun ⟨_, h⟩ => by cases h
  exact ⟨fun h => ⟨this, (lookO_mapk x).1 h⟩, fun h => (lookO_mapk x).2 h.2⟩
 | some q =>
  obtain ⟨c, kb⟩ := q;obtain ⟨hkb, hkc⟩ := hok c kb rfl;have hls : ¬ lsO (some (c, kb)) id ↔ id ≠ c := ⟨fun h e => h ⟨kb, by rw [e]⟩, fun h ⟨_, e⟩ => h (by cases e; rfl)⟩;rw [hls];have e : lookO (E.turnO lp mem (some (c, kb)) x).bow id = (lookO ((mem.filter fun p => !Nat.beq p.1 c).map fun p => (p.1, x p.1)) id).or (lookO [(kb, x c)] id) := lookO_append _ _;rw [e]
  constructor
  ·intro h
   cases hq : lookO ((mem.filter fun p => !Nat.beq p.1 c).map fun p => (p.1, x p.1)) id with
   | some v =>
    rw [hq] at h
    cases h
    obtain ⟨⟨b, h1⟩, h2⟩ := (lookO_mapk x).1 hq;rw [lookO_flt] at h1
    by_cases hc : id = c
    ·rw [if_pos hc] at h1; cases h1
    ·rw [if_neg hc] at h1; exact ⟨hc, ⟨b, h1⟩, h2⟩
   | none =>
    rw [hq] at h
    exfalso
    simp only [lookO] at h
    cases hk : Nat.beq kb id with
    | false => rw [hk] at h; cases h
    | true =>
     have := Nat.eq_of_beq_eq_true hk;subst this;obtain ⟨b, hb⟩ := hkb;have : lookO ((mem.filter fun p => !Nat.beq p.1 c).map fun p => (p.1, x p.1)) kb = some (x kb) := (lookO_mapk x).2 ⟨⟨b, by rw [lookO_flt, if_neg hkc]; exact hb⟩, rfl⟩;rw [hq] at this; cases this
  ·rintro ⟨h1, ⟨b, h2⟩, rfl⟩;rw [(lookO_mapk x).2 ⟨⟨b, by rw [lookO_flt, if_neg h1]; exact h2⟩, rfl⟩]
   rfl
theorem mrel_turnO {mem : Mem} {ρ : Rho} {W : World} {Mo : Nat → Prop} {x : Nat → Option Own} (lp : Nat) (o : Option (Nat × Nat)) (hMo : ∀ b, Mo b → b < W.heap.size) (hgl : GlOk E W Mo)
  (hdom : ∀ id y, ρ id = some y → ∃ blk, lookO mem id = some blk) (hx : ∀ id blk, lookO mem id = some blk → ρ id = some (x id)) (hsub : ∀ id ow, ρ id = some (some ow) → Mo ow.b)
  (hinj : ∀ id id' ow ow', ρ id = some (some ow) → ρ id' = some (some ow') → ow.b = ow'.b → id = id') (hblk : ∀ id blk, lookO mem id = some blk → BRel W Mo ρ id blk) (hnb : E.nb ≤ W.heap.size)
  (hok : ∀ c kb, o = some (c, kb) → (∃ b, lookO mem kb = some b) ∧ kb ≠ c) (hxc : ∀ c ow, x c = some ow → ρ c = some (some ow)) :
  owned (fun b => Mo b ∧ ¬ ∃ id ow, ¬ lsO o id ∧ ρ id = some (some ow) ∧ ow.b = b) ρ = Mo ∧ (∀ b, (E.turnO lp mem o x).lent b ↔ ∃ id ow, ρ id = some (some ow) ∧ ow.b = b) ∧
  MRel (E.turnO lp mem o x) W (fun b => Mo b ∧ ¬ ∃ id ow, ¬ lsO o id ∧ ρ id = some (some ow) ∧ ow.b = b) ρ mem W := by
 have hown : owned (fun b => Mo b ∧ ¬ ∃ id ow, ¬ lsO o id ∧ ρ id = some (some ow) ∧ ow.b = b) ρ = Mo := by
  funext b
  apply propext
  constructor
  ·rintro (h | ⟨id, o, h, rfl⟩)
   ·exact h.1
   ·exact hsub _ _ h
  ·intro h
   by_cases hb : ∃ id ow, ¬ lsO o id ∧ ρ id = some (some ow) ∧ ow.b = b
   ·obtain ⟨id, ow, _, h1, h2⟩ := hb; exact .inr ⟨id, ow, h1, h2⟩
   ·exact .inl ⟨h, hb⟩
 have hlent : ∀ b, (E.turnO lp mem o x).lent b ↔ ∃ id ow, ρ id = some (some ow) ∧ ow.b = b := by
  have hin : ∀ id ow, ρ id = some (some ow) → (∃ blk, lookO mem id = some blk) ∧ x id = some ow := fun id ow h1 => by
   obtain ⟨blk, hb⟩ := hdom id _ h1;have h3 := hx id blk hb;rw [h1] at h3;exact ⟨⟨blk, hb⟩, by simpa using h3.symm⟩
  have hout : ∀ id ow, (id, some ow) ∈ (mem.map fun p => (p.1, x p.1)) → ρ id = some (some ow) := fun id ow h => by
   obtain ⟨⟨b', h4⟩, h5⟩ := (lookO_mapk x).1 (mapk_mem h);rw [h5]; exact hx id b' h4
  intro b
  constructor
  ·rintro ⟨id, ow, h1, h2⟩
   cases o with
   | none => exact ⟨id, ow, hout id ow h1, h2⟩
   | some q =>
    obtain ⟨c, kb⟩ := q
    rcases List.mem_append.1 h1 with h1 | h1
    ·obtain ⟨z, hz, e⟩ := List.mem_map.1 h1;exact ⟨id, ow, hout id ow (List.mem_map.2 ⟨z, (List.mem_filter.1 hz).1, e⟩), h2⟩
    ·have h1 := List.mem_singleton.1 h1;simp only [Prod.mk.injEq] at h1;exact ⟨c, ow, hxc c ow h1.2.symm, h2⟩
  ·rintro ⟨id, ow, h1, h2⟩;obtain ⟨hb, h3⟩ := hin id ow h1
   by_cases hc : lsO o id
   ·obtain ⟨kb, rfl⟩ := hc;exact ⟨kb, ow, List.mem_append.2 (.inr (by rw [h3]; exact List.mem_cons_self)), h2⟩
   ·exact ⟨id, ow, lookO_mem _ ((turnO_look hok).2 ⟨hc, hb, h3.symm⟩), h2⟩
 have hkeep : ∀ id y, lookO (E.turnO lp mem o x).bow id = some y → ¬ lsO o id ∧ ρ id = some y := fun id y h => by
  obtain ⟨h1, ⟨b, h2⟩, rfl⟩ := (turnO_look hok).1 h;exact ⟨h1, hx id b h2⟩
 refine ⟨hown, hlent, BelowX.refl _ W, fun b h => hMo b h.1, by rw [hown]; exact hgl, hdom, fun id ow ho => ⟨.inr ((hlent _).2 ⟨id, ow, ho, rfl⟩), hMo _ (hsub _ _ ho)⟩, hinj, fun id y h => (hkeep id y h).2, ⟨?_, hnb⟩, by rw [hown]; exact hblk⟩;rintro b ⟨id, ow, h1, h2⟩ hM;obtain ⟨h3, h4⟩ := hkeep id _ h1;exact hM.2 ⟨id, ow, h3, h4, h2⟩
theorem BRel.clo {w : World} {M M' : Nat → Prop} {ρ ρ' : Rho} {m : Mem} {id : Nat} {blk : Blk} (hi : (lookO m id).isSome = true) (hc : blkIn m blk = true) (h : BRel w M ρ id blk) (hM : ∀ b, M' b → M b) (hρ : ∀ id, (lookO m id).isSome = true → ρ' id = ρ id) : BRel w M' ρ' id blk := by
 cases blk with
 | box cs =>
  obtain ⟨ow, e, vs, g1, g2, g3, g4⟩ := h;exact ⟨ow, e, vs, by rw [hρ id hi]; exact g1, g2, g3, g4.sub hM hρ (by simpa [blkIn] using hc)⟩
 | arr e k xs =>
  rcases h with ⟨g1, g2⟩ | ⟨ow, vs, g1, g2, g3, g4, g5, g6, g7⟩
  ·exact .inl ⟨by rw [hρ id hi]; exact g1, g2⟩
  ·exact .inr ⟨ow, vs, by rw [hρ id hi]; exact g1, g2, g3, g4, g5, g6, g7.mono (fun _ _ _ => rfl) (fun b _ => hM b)⟩
 | mp es =>
  obtain ⟨ow, en, cl, g1, g2, g3, g4⟩ := h;exact ⟨ow, en, cl, by rw [hρ id hi]; exact g1, g2, g3.mono (fun _ _ _ => rfl) (fun b _ => hM b), g4⟩
 | obj o =>
  obtain ⟨ow, g1, g2, g3⟩ := h;exact ⟨ow, by rw [hρ id hi]; exact g1, g2, g3⟩
 | mit es seen =>
  obtain ⟨ow, g1, g2, g3⟩ := h;exact ⟨ow, by rw [hρ id hi]; exact g1, g2, g3.mono rfl (fun _ _ _ => rfl) (fun b _ => hM b)⟩
 | tbox T cs =>
  obtain ⟨ow, vs, g1, g2, g3, g4⟩ := h;exact ⟨ow, vs, by rw [hρ id hi]; exact g1, g2, g3, g4.sub hM hρ (by simpa [blkIn] using hc)⟩
 | buf e bs =>
  rcases h with ⟨g1, g2⟩ | ⟨ow, cur, g1, g2⟩
  ·exact .inl ⟨by rw [hρ id hi]; exact g1, g2⟩
  ·exact .inr ⟨ow, cur, by rw [hρ id hi]; exact g1, g2⟩
 | gone => trivial
def JmL (ρ0 : Rho) (Mo N Y : Nat → Prop) (o : Option (Nat × Nat)) (lp D : Nat) (w : World) (st : Obj) (m : Mem) (W : World) : Prop :=
 BelowX (fun b => b = lp ∨ ∃ id ow, ρ0 id = some (some ow) ∧ ow.b = b) w W ∧ W.heap[lp]? = some st ∧ W.heap[D]? = some (.deferred (some [])) ∧ (∀ b, N b → w.heap.size ≤ b) ∧ (∀ b, Y b → w.heap.size ≤ b ∧ b < W.heap.size) ∧
 ∃ ρ : Rho, (∀ id, ¬ lsO o id → ρ id = ρ0 id) ∧ (∀ id y, ρ id = some y → ∃ blk, lookO m id = some blk) ∧ (∀ id id' ow ow', ρ id = some (some ow) → ρ id' = some (some ow') → ow.b = ow'.b → id = id') ∧
  (∀ id ow, ρ id = some (some ow) → (∃ id0 ow0, ρ0 id0 = some (some ow0) ∧ ow0.b = ow.b) ∨ Y ow.b) ∧ ∀ id blk, lookO m id = some blk → BRel W (fun b => (Mo b ∨ N b) ∨ Y b) ρ id blk
theorem JmL.turn {ρ0 : Rho} {Mo N Y : Nat → Prop} {o : Option (Nat × Nat)} {lp D : Nat} {w W W' : World} {st : Obj} {m : Mem} (hsub : ∀ id ow, ρ0 id = some (some ow) → ow.b < w.heap.size) (hlp : lp < w.heap.size ∧ D < w.heap.size) (h : JmL ρ0 Mo N Y o lp D w st m W) (hd : ∀ b, Y b → ¬ N b) (hB : BelowX N W W') : JmL ρ0 Mo N Y o lp D w st m W' := by
 obtain ⟨h1, h3, h4, h5, h6, ρ, r1, r2, r3, r4, r5⟩ := h;refine ⟨⟨hB.os.trans h1.os, hB.tape.trans h1.tape, hB.output.trans h1.output, Nat.le_trans h1.size hB.size, fun k hk hl => ?_⟩, ?_, ?_, h5, fun b hb => ⟨(h6 b hb).1, Nat.lt_of_lt_of_le (h6 b hb).2 hB.size⟩, ρ, r1, r2, r3, r4, fun id blk hb => ?_⟩
 ·exact (hB.block k (Nat.lt_of_lt_of_le hk h1.size) (fun h => by have := h5 k h; omega)).trans (h1.block k hk hl)
 ·exact (hB.block lp (Array.getElem?_eq_some_iff.1 h3).1 (fun h => by have := h5 _ h; omega)).trans h3
 ·exact (hB.block D (Array.getElem?_eq_some_iff.1 h4).1 (fun h => by have := h5 _ h; omega)).trans h4
 ·refine (r5 id blk hb).mono none (by simp) (noref_none _) (fun ow ho => ?_) (fun b hb hno => hB.block b hb fun h => hno (.inl (.inr h))) (fun _ _ h => h) (fun _ _ _ => rfl)
  rcases r4 id ow ho with ⟨i0, o0, q1, q2⟩ | q
  ·have := hsub i0 o0 q1
   exact hB.block _ (by have := h1.size; omega) fun h => by have := h5 _ h; omega
  ·exact hB.block _ (h6 _ q).2 (hd _ q)
theorem JmL.take {ρ0 : Rho} {Mo N N' Y : Nat → Prop} {o : Option (Nat × Nat)} {lp D : Nat} {w W : World} {st : Obj} {m : Mem} (hN : ∀ b, N' b → N b ∨ W.heap.size ≤ b) (h : JmL ρ0 Mo N Y o lp D w st m W) : JmL ρ0 Mo N' Y o lp D w st m W := by
 obtain ⟨h1, h3, h4, h5, h6, ρ, r1, r2, r3, r4, r5⟩ := h;refine ⟨h1, h3, h4, fun b hb => ?_, h6, ρ, r1, r2, r3, r4, fun id blk hb => ?_⟩
 ·rcases hN b hb with h | h
  ·exact h5 b h
  ·exact Nat.le_trans h1.size h
 ·exact (r5 id blk hb).mono none (by simp) (noref_none _) (fun _ _ => rfl) (fun _ _ _ => rfl) (fun b hb h => h.imp (Or.imp (fun h => h) fun h => (hN b h).resolve_right (by omega)) (fun h => h)) (fun _ _ _ => rfl)
def closedL (m : Mem) : Bool := m.all (fun q => q.2.live) && m.all (fun q => blkIn m q.2)
def RoundL {α γ : Type} (m : γ → Mem) (I : List α → γ → Prop) (Px : Code → List α → Mem → Prop) (m0 : Mem) (pre : List α) : Exit → ASt → Prop
 | .normal, s => ∃ g, I pre g ∧ MemL s (m g)
 | .ret, s => ∃ mx, Px .ret pre mx ∧ sameIds m0 mx ∧ closedL mx = true ∧ MemL s mx
 | .exit id, s => ∃ mx, Px (.exit id) pre mx ∧ sameIds m0 mx ∧ closedL mx = true ∧ MemL s mx
 | _, _ => False
theorem noref_look {c : Nat} : ∀ {l : List (Nat × TV)}, l.all (fun q => noref (some c) q.2) = true → ∀ i, noref (some c) (lookT l i) = true
 | [], _, _ => rfl
 | (k, v) :: r, h, i => by
  simp only [List.all_cons, Bool.and_eq_true] at h;simp only [lookT]
  cases Nat.beq k i with
  | true => exact h.1
  | false => exact noref_look h.2 i
end
section
variable {E : Env} {w0 : World} {M0 : Nat → Prop}
def SeqZ (E : Env) (g : FuncId) (ty : TypeId) (str : ByteArray) {α : Type} (enc : α → Value × Value) (xs : List α) : Prop :=
 ∀ (w : World) (M : Nat → Prop) (b0 l : Nat) (J : NY → List α → Bool → World → Prop), (∀ b, M b → b < w.heap.size) → GlOk E w M → M b0 → w.heap[b0]? = some (.cells #[.string str] ty (0, 0)) →
  (∀ N pre st W W', J N pre st W → (∀ b, N.y b → ¬ N.n b) → BelowX N.n W W' → J N pre st W') → (∀ N N' pre st W, J N pre st W → (∀ b, N' b → N.n b ∨ W.heap.size ≤ b) → J ⟨N', N.y⟩ pre st W) →
  (∀ N pre x post W1, xs = pre ++ x :: post → (∀ b, N.n b → (w.heap.size ≤ b ∨ b = b0) ∧ b < W1.heap.size) → (∀ b, N.y b → (w.heap.size ≤ b ∧ b < W1.heap.size) ∧ ¬ N.n b) → J N pre false W1 → YieldAt Fence.wide 0 E.P l #[(enc x).1, (enc x).2] W1 fun e W' =>
   BelowX (fun b => (M b ∧ b ≠ b0) ∨ N.y b) W1 W' ∧ ∃ b, e = .returned (.bool b) ∧ ∃ Y, (∀ b, Y b → (N.y b ∨ W1.heap.size ≤ b) ∧ b < W'.heap.size) ∧ J ⟨N.n, Y⟩ (pre ++ [x]) (!b) W') →
  J ⟨fun b => b = b0, fun _ => False⟩ [] false w → CallsIn Fence.wide 0 E.P g #[.func (.yield l) #[] #[], .pointer (some ⟨b0, 0, none⟩)] w fun e W' => (∃ v, e = .returned v) ∧ ∃ Y, (∀ b, Y b → w.heap.size ≤ b ∧ b < W'.heap.size) ∧ (J ⟨fun _ => False, Y⟩ xs false W' ∨ ∃ pre, J ⟨fun _ => False, Y⟩ pre true W')
def JmZ (b0 : Nat) (ρ0 : Rho) (Mo N Y : Nat → Prop) (o : Option (Nat × Nat)) (lp D : Nat) (w : World) (st : Obj) (m : Mem) (W : World) : Prop :=
 BelowX (fun b => b = lp ∨ b = b0 ∨ ∃ id ow, ρ0 id = some (some ow) ∧ ow.b = b) w W ∧ W.heap[lp]? = some st ∧ W.heap[D]? = some (.deferred (some [])) ∧ (∀ b, N b → w.heap.size ≤ b ∨ b = b0) ∧ (∀ b, Y b → w.heap.size ≤ b ∧ b < W.heap.size) ∧
 ∃ ρ : Rho, (∀ id, ¬ lsO o id → ρ id = ρ0 id) ∧ (∀ id y, ρ id = some y → ∃ blk, lookO m id = some blk) ∧ (∀ id id' ow ow', ρ id = some (some ow) → ρ id' = some (some ow') → ow.b = ow'.b → id = id') ∧
  (∀ id ow, ρ id = some (some ow) → (∃ id0 ow0, ρ0 id0 = some (some ow0) ∧ ow0.b = ow.b) ∨ Y ow.b) ∧ ∀ id blk, lookO m id = some blk → BRel W (fun b => (Mo b ∨ N b) ∨ Y b) ρ id blk
theorem JmZ.turn {b0 : Nat} {ρ0 : Rho} {Mo N Y : Nat → Prop} {o : Option (Nat × Nat)} {lp D : Nat} {w W W' : World} {st : Obj} {m : Mem} (hsub : ∀ id ow, ρ0 id = some (some ow) → ow.b < w.heap.size ∧ ow.b ≠ b0) (hlp : lp < w.heap.size ∧ D < w.heap.size) (hb0 : b0 ≠ lp ∧ b0 ≠ D) (h : JmZ b0 ρ0 Mo N Y o lp D w st m W) (hd : ∀ b, Y b → ¬ N b) (hB : BelowX N W W') : JmZ b0 ρ0 Mo N Y o lp D w st m W' := by
 obtain ⟨h1, h3, h4, h5, h6, ρ, r1, r2, r3, r4, r5⟩ := h;refine ⟨⟨hB.os.trans h1.os, hB.tape.trans h1.tape, hB.output.trans h1.output, Nat.le_trans h1.size hB.size, fun k hk hl => ?_⟩, ?_, ?_, h5, fun b hb => ⟨(h6 b hb).1, Nat.lt_of_lt_of_le (h6 b hb).2 hB.size⟩, ρ, r1, r2, r3, r4, fun id blk hb => ?_⟩
 ·exact (hB.block k (Nat.lt_of_lt_of_le hk h1.size) (fun h => (h5 k h).elim (fun q => by omega) fun q => hl (.inr (.inl q)))).trans (h1.block k hk hl)
 ·exact (hB.block lp (Array.getElem?_eq_some_iff.1 h3).1 (fun h => by have := h5 _ h; omega)).trans h3
 ·exact (hB.block D (Array.getElem?_eq_some_iff.1 h4).1 (fun h => by have := h5 _ h; omega)).trans h4
 ·refine (r5 id blk hb).mono none (by simp) (noref_none _) (fun ow ho => ?_) (fun b hb hno => hB.block b hb fun h => hno (.inl (.inr h))) (fun _ _ h => h) (fun _ _ _ => rfl)
  rcases r4 id ow ho with ⟨i0, o0, q1, q2⟩ | q
  ·have := hsub i0 o0 q1
   exact hB.block _ (by have := h1.size; omega) fun h => by have := h5 _ h; omega
  ·exact hB.block _ (h6 _ q).2 (hd _ q)
theorem JmZ.take {b0 : Nat} {ρ0 : Rho} {Mo N N' Y : Nat → Prop} {o : Option (Nat × Nat)} {lp D : Nat} {w W : World} {st : Obj} {m : Mem} (hN : ∀ b, N' b → N b ∨ W.heap.size ≤ b) (h : JmZ b0 ρ0 Mo N Y o lp D w st m W) : JmZ b0 ρ0 Mo N' Y o lp D w st m W := by
 obtain ⟨h1, h3, h4, h5, h6, ρ, r1, r2, r3, r4, r5⟩ := h;refine ⟨h1, h3, h4, fun b hb => ?_, h6, ρ, r1, r2, r3, r4, fun id blk hb => ?_⟩
 ·rcases hN b hb with h | h
  ·exact h5 b h
  ·exact .inl (Nat.le_trans h1.size h)
 ·exact (r5 id blk hb).mono none (by simp) (noref_none _) (fun _ _ => rfl) (fun _ _ _ => rfl) (fun b hb h => h.imp (Or.imp (fun h => h) fun h => (hN b h).resolve_right (by omega)) (fun h => h)) (fun _ _ _ => rfl)
theorem zprep {n : Nat} {tI t : Nat → TV} {mI m : Mem} {a : Act} {w : World} {gop : Operand} {gf : FuncId} {kc : Nat} {str : ByteArray} {ty : TypeId} (ha : ARel E w0 M0 ⟨n, tI, mI⟩ a w) (hg : ASt.eval E ⟨n, tI, mI⟩ gop = .fnp gf false kc) (hI : lookO mI kc = some (.tbox ty [.g (.str str)]))
  (h2 : MemL ⟨n, tI, mI⟩ m) (hkc : lookO m kc = none) (htI : ∀ i, t i = .any ∨ t i = tI i ∧ refsIn m (t i) = true) (hcl : closedL m = true) (hbw : bowIn E m = true) (hnl : ∀ {b}, ¬ E.lent b) :
  ∃ (ρ : Rho) (MZ : Nat → Prop) (b0 : Nat), MRel E w0 M0 ρ m w ∧ Marks w0 MZ a.defers w ∧ (∀ i, TRel w MZ ρ (t i) (a.tmps.getD i undef)) ∧ (∀ id blk, lookO m id = some blk → BRel w MZ ρ id blk) ∧ GlOk E w MZ ∧ (∀ b, MZ b → b < w.heap.size) ∧ (∀ b, owned M0 ρ b → MZ b) ∧ MZ b0 ∧
   (b0 < w.heap.size ∧ w0.heap.size ≤ b0 ∧ ¬ owned M0 ρ b0) ∧ w.heap[b0]? = some (.cells #[.string str] ty (0, 0)) ∧ a.eval gop = .func (.func gf) #[] #[.pointer (some ⟨b0, 0, none⟩)] := by
 obtain ⟨ρ, hm, hmk, ht⟩ := ha.ex;have hge := eval_rel hm ht gop;rw [hg] at hge;obtain ⟨ow0, q1, q2⟩ := hge;obtain ⟨ow1, vs, g1, g2, g3, g4⟩ := hm.blk kc _ hI
 obtain rfl : ow1 = ow0 := by rw [g1] at q1; cases q1; rfl
 obtain rfl : vs = [.string str] := by
  match vs, g4 with
  | [v], h => rw [show v = .string str from h.1.1]
  | [], h => exact h.elim
  | _ :: _ :: _, h => exact h.2.elim
 let ρ' : Rho := fun id => if (lookO m id).isSome = true then ρ id else none
 have hρ : ∀ id, (lookO m id).isSome = true → ρ' id = ρ id := fun id hi => by simp only [ρ', if_pos hi]
 have hρ' : ∀ id x, ρ' id = some x → ρ id = some x ∧ (lookO m id).isSome = true := by
  intro id x hx;simp only [ρ'] at hx
  split at hx
  ·rename_i hi; exact ⟨hx, hi⟩
  ·cases hx
 have hM : ∀ b, owned M0 ρ' b → owned M0 ρ b := by
  rintro b (hb | ⟨id, o, ho, rfl⟩)
  ·exact .inl hb
  ·exact .inr ⟨id, o, (hρ' id _ ho).1, rfl⟩
 have hlent : lookO E.bow kc = none := by
  cases hq : lookO E.bow kc with
  | none => rfl
  | some x =>
   have := List.all_eq_true.1 hbw (kc, x) (lookO_mem _ hq);simp only [hkc] at this
   cases this
 simp only [closedL, Bool.and_eq_true, List.all_eq_true] at hcl
 have hblk : ∀ id blk, lookO m id = some blk → BRel w (owned M0 ρ) ρ' id blk := fun id blk hb =>
  BRel.clo (by rw [hb]; rfl) (hcl.2 _ (lookO_mem _ hb)) (hm.blk id blk (memL_look h2 id blk hb)) (fun b h => h) hρ
 refine ⟨ρ', owned M0 ρ, ow1.b, ⟨hm.below, hm.m0, ?_, ?_, fun id ow ho => hm.fresh id ow (hρ' id _ ho).1, fun id id' ow ow' ho ho' => hm.inj id id' ow ow' (hρ' id _ ho).1 (hρ' id' _ ho').1, ?_, hm.lentM, ?_⟩, hmk, ?_, hblk, hm.glob, hm.lt, hM, .inr ⟨kc, ow1, g1, rfl⟩, ⟨(hm.fresh kc ow1 g1).2, ?_, ?_⟩, ?_, ?_⟩
 ·intro g vs hg;have := hm.glob g vs hg;exact ⟨⟨fun hb => this.1.1 (hM _ hb), this.1.2⟩, this.2.mono (fun _ _ _ => rfl) (fun b _ => hM b) this.1.1⟩
 ·intro id x hx;exact Option.isSome_iff_exists.1 (hρ' id x hx).2
 ·intro id x hx;rw [hρ id (List.all_eq_true.1 hbw (id, x) (lookO_mem _ hx))];exact hm.keep id x hx
 ·intro id blk hb;exact (hblk id blk hb).mono none (by simp) (noref_none _) (fun _ _ => rfl) (fun _ _ _ => rfl) (fun b _ => hM b) (fun _ _ _ => rfl)
 ·intro i
  rcases htI i with h | ⟨h, hr⟩
  ·rw [h]; trivial
  ·exact (show TRel w (owned M0 ρ) ρ (t i) _ from h ▸ ht i).sub (m := m) hr (fun _ h => h) hρ
 ·rcases (hm.fresh kc ow1 g1).1 with h | h
  ·exact h
  ·exact (hnl h).elim
 ·rintro (h | ⟨id, o, ho, he⟩)
  ·rcases (hm.fresh kc ow1 g1).1 with h' | h'
   ·have := hm.m0 _ h; omega
   ·exact hnl h'
  ·obtain ⟨k1, k2⟩ := hρ' id _ ho;obtain rfl := hm.inj id kc o ow1 k1 g1 he;rw [hkc] at k2; cases k2
 ·exact g3
 ·rw [q2, g2]; rfl
theorem aw_rangeFuncZ {α γ : Type} {gop : Operand} {p p2 : Tmp} {assign body : Code} {Q : Exit → ASt → Prop} {n : Nat} {t : Nat → TV} {gf : FuncId} {enc : α → Value × Value} {xs : List α}
  {str : ByteArray} {ty : TypeId} {kc : Nat} {tI : Nat → TV} {mI : Mem} (o : Option (Nat × Nat)) (m : γ → Mem) (I : List α → γ → Prop) (g0 : γ) (S1 : γ → α → ASt) (Px : Code → List α → Mem → Prop)
  (hmk : E.mks = true) (hrn : E.rnd = none) (hk : Known E.P gf) (hp : p < n) (hp2 : p2 < n)
  (hg : ASt.eval E ⟨n, tI, mI⟩ gop = .fnp gf false kc) (hI : lookO mI kc = some (.tbox ty [.g (.str str)])) (hmI : MemL ⟨n, tI, mI⟩ (m g0)) (hkc : lookO (m g0) kc = none) (htI : ∀ i, t i = .any ∨ t i = tI i ∧ refsIn (m g0) (t i) = true) (hbwm : bowIn E (m g0) = true) (hbw0 : E.bow = [])
  (hseq : SeqZ E gf ty str enc xs) (gx gx2 : α → G) (hgx : ∀ x w M, (gx x).p w M (enc x).1) (hgx2 : ∀ x w M, (gx2 x).p w M (enc x).2)
  (hg0 : I [] g0) (hids : ∀ g, sameIds (m g0) (m g)) (hgood : ∀ g, closedL (m g) = true)
  (hassign : ∀ pre x post g, xs = pre ++ x :: post → I pre g → ∀ lp w1 M1 x1, AWp (E.turnO lp (m g) o x1) w1 M1 assign (fun e s' => e = .normal ∧ s' = S1 g x) ⟨n, upd p2 (.g (gx2 x)) (upd p (.g (gx x)) t), m g⟩)
  (hlive1 : ∀ g x, liveM (S1 g x).mem = true)
  (hbody : ∀ pre x post g, xs = pre ++ x :: post → I pre g → ∀ lp w1 M1 x1, AWp (E.turnO lp (S1 g x).mem o x1) w1 M1 body (RoundL m I Px (m g0) (pre ++ [x])) (S1 g x))
  (hkb : ∀ g c kb, o = some (c, kb) → (∃ b, lookO (m g) kb = some b) ∧ kb ≠ c) (hkb1 : ∀ g x c kb, o = some (c, kb) → (∃ b, lookO (S1 g x).mem kb = some b) ∧ kb ≠ c) (hbc : ∀ id, lsO o id → lookO E.bow id = none) (htc : ∀ i, noref (o.map (·.1)) (t i) = true)
  (hdone : ∀ g, I xs g → Q .normal ⟨n, t, m g⟩)
  (hstop : ∀ co pre mx, Px co pre mx → AWp E w0 M0 co Q ⟨n, t, mx⟩) : AWp E w0 M0 (.rangeFunc gop #[p, p2] assign body) Q ⟨n, tI, mI⟩ := by
 intro a w ha;obtain ⟨ρ, MZ, b0, hm, hmks, ht, hblk, hglob, hltZ, hZ1, hZ2, hb0, hb0h, hge⟩ := zprep ha hg hI hmI hkc htI (hgood g0) hbwm (lent_nil hbw0)
 have hF : E.F = Fence.wide := by unfold Env.F; rw [hrn]; rfl
 obtain ⟨fng, k1, k2, k3⟩ := hk;refine wpIn_rangeFunc ?_;intro fn _;obtain ⟨rec, hrec⟩ : ∃ rec : LoopState → Option Code → Loop, rec = fun st pe => { state := st, pending := pe, fn, tmps := a.tmps, params := #[p, p2], assign, body, defers := w.heap.size } := ⟨_, rfl⟩;obtain ⟨w2, hw2⟩ : ∃ w2, (w.alloc (.deferred (some []))).alloc (.loop (rec .ready none)) = w2 := ⟨_, rfl⟩
 have hgr : Grow w w2 := by rw [← hw2]; exact (Grow.alloc w _).trans (Grow.alloc _ _)
 have hsz : w2.heap.size = w.heap.size + 2 := by rw [← hw2]; simp
 have hL : w2.heap[w.heap.size + 1]? = some (.loop (rec .ready none)) := by
  rw [← hw2]; have := World.alloc_heap_new (w.alloc (.deferred (some []))) (.loop (rec .ready none)); rwa [World.size_alloc] at this
 have hD : w2.heap[w.heap.size]? = some (.deferred (some [])) := by
  rw [← hw2]; exact (RowKit.Below.heap_alloc _ _ _ (by simp)).trans (World.alloc_heap_new w _)
 have hρlt : ∀ id ow, ρ id = some (some ow) → ow.b < w.heap.size := fun id ow h => (hm.fresh id ow h).2;have hne0 : ∀ id ow, ρ id = some (some ow) → ow.b ≠ b0 := fun id ow h e => hb0.2.2 (.inr ⟨id, ow, h, e⟩);have hb0w : b0 < w.heap.size := hb0.1;have hb00 : w0.heap.size ≤ b0 := hb0.2.1
 have hrun : (Instr.enterLoop fn a.tmps #[p, p2] assign body E.F.round).run E.P w = .ok (w.heap.size + 1, [{ target := .collected w.heap.size, args := #[] }]) w2 := by
  rw [← hw2, hrec, hF]; exact run_enterLoop_outer _ _ _ _ _
 clear hw2;generalize hDD : w.heap.size = D at *;generalize hlpp : D + 1 = lp at *
 let Mo : Nat → Prop := fun b => MZ b ∨ b = D ∨ b = lp
 let L : Nat → Prop := fun b => b = lp ∨ b = b0 ∨ ∃ id ow, ρ id = some (some ow) ∧ ow.b = b
 have hLMo : ∀ b, L b → Mo b := by
  rintro b (h | h | ⟨id, ow, h, rfl⟩)
  ·exact .inr (.inr h)
  ·exact .inl (h ▸ hZ2)
  ·exact .inl (hZ1 _ (.inr ⟨id, ow, h, rfl⟩))
 have hsubMo : ∀ id ow, ρ id = some (some ow) → Mo ow.b := fun id ow h => .inl (hZ1 _ (.inr ⟨id, ow, h, rfl⟩))
 have hMow : ∀ b, Mo b → b < w2.heap.size := by
  rintro b (h | h | h)
  ·have := hltZ b h; omega
  ·omega
  ·omega
 have hMoSub : ∀ b, b < w.heap.size → Mo b → MZ b := by
  rintro b hb (h | h | h)
  ·exact h
  ·omega
  ·omega
 have hgl2 : GlOk E w2 Mo := fun g vs hgv => by
  obtain ⟨⟨g1, g2⟩, g3⟩ := hglob g vs hgv;refine ⟨⟨?_, by omega⟩, g3.mono hgr.hh hMoSub g1⟩;rintro (h | h | h)
  ·exact g1 h
  ·omega
  ·omega
 have hdom : ∀ gg id y, ρ id = some y → ∃ blk, lookO (m gg) id = some blk := fun gg id y h => by
  rw [look_ids, hids gg, ← look_ids]; exact hm.dom id y h
 have hhW : ∀ W, BelowX L w2 W → ∀ b, b < w2.heap.size → ¬ Mo b → W.heap[b]? = w2.heap[b]? := fun W h b hb hno => h.block b hb fun hl => hno (hLMo b hl)
 have hYsub : ∀ (N Y : Nat → Prop), (∀ b, N b → w2.heap.size ≤ b ∨ b = b0) → (∀ b, Y b → w2.heap.size ≤ b) → ∀ b, b < w2.heap.size → ((Mo b ∨ N b) ∨ Y b) → Mo b := by
  rintro N Y hN hY b hb ((h | h) | h)
  ·exact h
  ·rcases hN b h with h | h
   ·omega
   ·exact .inl (h ▸ hZ2)
  ·have := hY b h; omega
 have hglN : ∀ W (N Y : Nat → Prop), BelowX L w2 W → (∀ b, N b → w2.heap.size ≤ b ∨ b = b0) → (∀ b, Y b → w2.heap.size ≤ b) → GlOk E W (fun b => (Mo b ∨ N b) ∨ Y b) := fun W N Y h hN hY g vs hgv => by
  obtain ⟨⟨g1, g2⟩, g3⟩ := hgl2 g vs hgv;have hs := hYsub N Y hN hY;exact ⟨⟨fun k => g1 (hs g g2 k), by have := h.size; omega⟩, g3.mono (fun b hb hno => hhW W h b hb hno) hs g1⟩
 have hρk : ∀ (ρ1 : Rho), (∀ id, ¬ lsO o id → ρ1 id = ρ id) → ∀ id, some id ≠ o.map (·.1) → ρ id ≠ none → ρ1 id = ρ id := fun ρ1 h id hi _ => h id fun ⟨_, e⟩ => hi (by rw [e]; rfl)
 have htWN : ∀ W (N Y : Nat → Prop) (ρ1 : Rho), BelowX L w2 W → (∀ b, N b → w2.heap.size ≤ b ∨ b = b0) → (∀ b, Y b → w2.heap.size ≤ b) → (∀ id, ¬ lsO o id → ρ1 id = ρ id) → ∀ i, TRel W (fun b => (Mo b ∨ N b) ∨ Y b) ρ1 (t i) (a.tmps.getD i undef) := fun W N Y ρ1 h hN hY hρ1 i =>
  (((ht i).mono none (by cases ASt.get ⟨n, t, m g0⟩ i <;> rfl) hgr.hh hMoSub (fun _ _ _ => rfl) : TRel w2 Mo ρ (t i) (a.tmps.getD i undef))).mono (o.map (·.1)) (htc i) (hhW W h) (hYsub N Y hN hY) (hρk ρ1 hρ1)
 -- behind the loop
 have back : ∀ mx W' st pe N Y, sameIds (m g0) mx → JmZ b0 ρ Mo N Y o lp D w2 (.loop (rec st pe)) mx W' →
   ARel E w0 M0 ⟨n, t, mx⟩ { a with defers := { target := .collected D, args := #[] } :: a.defers } (W'.putObj lp (.loop { rec st pe with state := .exhausted })) := by
  rintro mx W' st pe N Y hs ⟨j1, j3, j4, j5, j6, ρ1, r1, r2, r3, r4, r5⟩;have hfull : BelowX L w2 (W'.putObj lp (.loop { rec st pe with state := .exhausted })) := j1.trans (put_belowX _ _ _ (.inl rfl))
  have hhw : ∀ b, b < w.heap.size → ¬ MZ b → (W'.putObj lp (.loop { rec st pe with state := .exhausted })).heap[b]? = w.heap[b]? := fun b hb hno =>
   (hhW _ hfull b (by omega) fun h => hno (hMoSub b hb h)).trans (hgr.block b hb)
  have hsize : w.heap.size ≤ (W'.putObj lp (.loop { rec st pe with state := .exhausted })).heap.size := by have := hfull.size; omega
  have hsub1 : ∀ b, b < w.heap.size → owned M0 ρ1 b → MZ b := by
   rintro b hb (h | ⟨id, ow, h, rfl⟩)
   ·exact hZ1 _ (.inl h)
   ·rcases r4 id ow h with ⟨i0, o0, q1, q2⟩ | q
    ·exact hZ1 _ (.inr ⟨i0, o0, q1, q2⟩)
    ·have := (j6 _ q).1; omega
  have hown1 : ∀ id ow, ρ1 id = some (some ow) → (w0.heap.size ≤ ow.b ∨ E.lent ow.b) ∧ ow.b < W'.heap.size ∧ ow.b ≠ lp := fun id ow h => by
   rcases r4 id ow h with ⟨i0, o0, q1, q2⟩ | q
   ·rw [← q2];have := hρlt i0 o0 q1;have := j1.size;exact ⟨(hm.fresh i0 o0 q1).1, by omega, by omega⟩
   ·have h6 := j6 _ q;have := hm.below.size;exact ⟨.inl (by omega), h6.2, by omega⟩
  refine ⟨(fun h => by rw [hmk] at h; cases h), ha.size, ρ1, ⟨?_, hm.m0, ?_, ?_, ?_, r3, ?_, hm.lentM, ?_⟩, ?_, fun i => ?_⟩
  ·refine ⟨hfull.os.trans (hgr.os.trans hm.below.os), hfull.tape.trans (hgr.tape.trans hm.below.tape), hfull.output.trans (hgr.output.trans hm.below.output), Nat.le_trans hm.below.size hsize, fun k hk' hl => ?_⟩;have hkw := Nat.lt_of_lt_of_le hk' hm.below.size;refine (hfull.block k (by omega) ?_).trans ((hgr.block k hkw).trans (hm.below.block k hk' hl));rintro (h | h | ⟨id, ow, h, rfl⟩)
   ·omega
   ·omega
   ·rcases (hm.fresh id ow h).1 with g | g
    ·omega
    ·exact hl g
  ·intro g vs hgv;obtain ⟨⟨g1, g2⟩, g3⟩ := hglob g vs hgv;exact ⟨⟨fun k => g1 (hsub1 g g2 k), by omega⟩, g3.mono hhw hsub1 g1⟩
  ·exact r2
  ·exact fun id ow h => ⟨(hown1 id ow h).1, by rw [put_size]; exact (hown1 id ow h).2.1⟩
  ·intro id x h
   have hne : ¬ lsO o id := fun e => by rw [hbc id e] at h; cases h
   rw [r1 id hne]; exact hm.keep id x h
  ·intro id blk hb;refine (r5 id blk hb).mono none (by simp) (noref_none _) (fun ow ho => World.putObj_heap_other (hown1 id ow ho).2.2) (fun b _ hno => World.putObj_heap_other ?_) (fun b _ h => ?_) (fun _ _ _ => rfl)
   ·intro e; exact hno (.inl (.inl (.inr (.inr e))))
   ·rcases h with h | ⟨id2, ow2, h, rfl⟩
    ·exact .inl (.inl (.inl (hZ1 _ (.inl h))))
    ·rcases r4 id2 ow2 h with ⟨i0, o0, q1, q2⟩ | q
     ·exact .inl (.inl (.inl (hZ1 _ (.inr ⟨i0, o0, q1, q2⟩))))
     ·exact .inr q
  ·refine ⟨List.nodup_cons.2 ⟨fun hd => ?_, hmks.1⟩, fun d hd => ?_⟩
   ·obtain ⟨D', q1, q2, q3⟩ := hmks.2 _ hd;have hq := (Array.getElem?_eq_some_iff.1 q3.2).1;simp only [Deferred.mk.injEq, Target.collected.injEq, and_true] at q1
    omega
   rcases List.mem_cons.1 hd with rfl | hd
   ·refine ⟨D, rfl, by have := hm.below.size; omega, ?_, (World.putObj_heap_other (by omega)).trans j4⟩;rintro (h | ⟨id, ow, h, e⟩)
    ·have := hm.m0 D h; have := hm.below.size; omega
    ·rcases r4 id ow h with ⟨i0, o0, q1, q2⟩ | q
     ·have := hρlt i0 o0 q1; omega
     ·have := (j6 _ q).1; omega
   ·obtain ⟨D', q1, q2, q3⟩ := hmks.2 d hd;exact ⟨D', q1, q2, (G.mark D').mono q3 hhw hsub1⟩
  ·exact (ht i).mono (o.map (·.1)) (htc i) hhw hsub1 (hρk ρ1 r1)
 refine ⟨lp, [{ target := .collected D, args := #[] }], w2, { target := .fn (.func gf) #[.pointer (some ⟨b0, 0, none⟩)], args := #[.func (.yield lp) #[] #[]] }, w2, gf,
  #[.func (.yield lp) #[] #[], .pointer (some ⟨b0, 0, none⟩)], w2, hrun, ?_, fun _ _ => trivial, ?_, env_room, ?_⟩
 ·simp only [resolve, hge]
  simp [go_sem]
 ·simp [invoke, go_sem, run_callFunc k1 k2 k3]
 rw [hF]
 refine (hseq w2 Mo b0 lp (fun N pre st W => (st = false → ∃ gg, I pre gg ∧ JmZ b0 ρ Mo N.n N.y o lp D w2 (.loop (rec .ready none)) (m gg) W) ∧
  (st = true → ∃ co mx, Px co pre mx ∧ sameIds (m g0) mx ∧ JmZ b0 ρ Mo N.n N.y o lp D w2 (.loop (rec .done (some co))) mx W)) hMow hgl2 (.inl hZ2) ((hgr.block b0 (by omega)).trans hb0h) ?_ ?_ ?_ ?_).mono ?_
 ·rintro N pre st W W' ⟨h1, h2⟩ hd hB;exact ⟨fun h => by obtain ⟨gg, hI, hj⟩ := h1 h; exact ⟨gg, hI, hj.turn (fun id ow ho => ⟨by have := hρlt id ow ho; omega, hne0 id ow ho⟩) ⟨by omega, by omega⟩ ⟨by omega, by omega⟩ hd hB⟩, fun h => by obtain ⟨co, mx, q1, q2, hj⟩ := h2 h; exact ⟨co, mx, q1, q2, hj.turn (fun id ow ho => ⟨by have := hρlt id ow ho; omega, hne0 id ow ho⟩) ⟨by omega, by omega⟩ ⟨by omega, by omega⟩ hd hB⟩⟩
 ·rintro N N' pre st W ⟨h1, h2⟩ hN;exact ⟨fun h => by obtain ⟨gg, hI, hj⟩ := h1 h; exact ⟨gg, hI, hj.take hN⟩, fun h => by obtain ⟨co, mx, q1, q2, hj⟩ := h2 h; exact ⟨co, mx, q1, q2, hj.take hN⟩⟩
 ·-- ONE ROUND
  rintro ⟨N, Y⟩ pre x post W1 hxs hN _ ⟨hst, _⟩;obtain ⟨gg, hI, j1, j3, j4, j5, j6, ρ1, r1, r2, r3, r4, r5⟩ := hst rfl;have hN : ∀ b, N b → (w2.heap.size ≤ b ∨ b = b0) ∧ b < W1.heap.size := hN;have j5 : ∀ b, N b → w2.heap.size ≤ b ∨ b = b0 := j5;have j6 : ∀ b, Y b → w2.heap.size ≤ b ∧ b < W1.heap.size := j6;have j6' : ∀ b, Y b → w2.heap.size ≤ b := fun b h => (j6 b h).1;have r4 : ∀ id ow, ρ1 id = some (some ow) → (∃ id0 ow0, ρ id0 = some (some ow0) ∧ ow0.b = ow.b) ∨ Y ow.b := r4;have r5 : ∀ id blk, lookO (m gg) id = some blk → BRel W1 (fun b => (Mo b ∨ N b) ∨ Y b) ρ1 id blk := r5;have hlpW1 : lp < W1.heap.size := (Array.getElem?_eq_some_iff.1 j3).1;have hy := run_yield (P := E.P) (args := #[(enc x).1, (enc x).2]) j3 (by rw [hrec]; rfl);refine ⟨_, _, _, _, hy, roundIn_of_wpIn trivial ?_⟩;clear hy
  have hfold : (((rec .ready none).params.zip #[(enc x).1, (enc x).2]).foldl (fun tmps (t, a) => tmps.setIfInBounds t a) (rec .ready none).tmps) = ((a.put (some p) (enc x).1).put (some p2) (enc x).2).tmps := by rw [hrec]; simp [Act.put]
  have has : (rec .ready none).assign = assign := by rw [hrec]
  have hbo : (rec .ready none).body = body := by rw [hrec]
  rw [hfold, has, hbo]
  have hnbW : E.nb ≤ W1.heap.size := by have h1 := hm.lentM.2; have h2 := hm.below.size; have h3 := hgr.size; have h4 := j1.size; omega
  have hsubm : ∀ id ow, ρ1 id = some (some ow) → (fun b => (Mo b ∨ N b) ∨ Y b) ow.b := fun id ow h => by
   rcases r4 id ow h with ⟨i0, o0, q1, q2⟩ | q
   ·exact .inl (.inl (q2 ▸ hsubMo i0 o0 q1))
   ·exact .inr q
  have hx1 : ∀ id blk, lookO (m gg) id = some blk → ρ1 id = some ((ρ1 id).getD none) := fun id blk h => by
   have h1 := hgood gg;simp only [closedL, Bool.and_eq_true] at h1;obtain ⟨y, hy⟩ := (r5 id blk h).has (List.all_eq_true.1 h1.1 _ (lookO_mem _ h));rw [hy]; rfl
  have hxc1 : ∀ (ρ' : Rho) c ow, (ρ' c).getD none = some ow → ρ' c = some (some ow) := fun ρ' c ow h => by
   cases hq : ρ' c with
   | none => rw [hq] at h; cases h
   | some z => rw [hq] at h; simp only [Option.getD_some] at h; rw [h]
  have hlow : ∀ id ow, ρ1 id = some (some ow) → ow.b ≠ lp ∧ ow.b ≠ D := fun id ow h => by
   rcases r4 id ow h with ⟨i0, o0, q1, q2⟩ | q
   ·have := hρlt i0 o0 q1; omega
   ·have := j6' _ q; omega
  obtain ⟨o1, l1, mr1⟩ := mrel_turnO (E := E) (x := fun id => (ρ1 id).getD none) lp o (mem := m gg) (W := W1) (Mo := fun b => (Mo b ∨ N b) ∨ Y b) (fun b h => h.elim (fun h => h.elim (fun h => Nat.lt_of_lt_of_le (hMow b h) j1.size) (fun h => (hN b h).2)) (fun h => (j6 b h).2)) (hglN W1 N Y j1 j5 j6') r2 hx1 hsubm r3 r5 hnbW (hkb gg) (hxc1 ρ1);generalize hM1 : (fun b => ((Mo b ∨ N b) ∨ Y b) ∧ ¬ ∃ id ow, ¬ lsO o id ∧ ρ1 id = some (some ow) ∧ ow.b = b) = M1 at *
  have ha1 : ARel (E.turnO lp (m gg) o fun id => (ρ1 id).getD none) W1 M1 ⟨n, upd p2 (.g (gx2 x)) (upd p (.g (gx x)) t), m gg⟩ { tmps := ((a.put (some p) (enc x).1).put (some p2) (enc x).2).tmps, defers := [] } W1 := by
   refine ⟨fun _ => rfl, by rw [size_put, size_put]; exact ha.size, ρ1, mr1, Marks.nil, fun i => ?_⟩;rw [o1];show TRel W1 (fun b => (Mo b ∨ N b) ∨ Y b) ρ1 (upd p2 (.g (gx2 x)) (upd p (.g (gx x)) t) i) (((a.put (some p) (enc x).1).put (some p2) (enc x).2).tmps.getD i undef);rw [getD_put (a.put (some p) (enc x).1) (some p2) (enc x).2 (fun d h => by cases h; rw [size_put, ha.size]; exact hp2), upd_eq]
   by_cases hpi2 : p2 = i
   ·rw [if_pos hpi2, if_pos (by rw [hpi2])]; exact hgx2 x _ _
   rw [if_neg hpi2, if_neg (fun h => hpi2 (by cases h; rfl))];rw [getD_put a (some p) (enc x).1 (fun d h => by cases h; rw [ha.size]; exact hp), upd_eq]
   by_cases hpi : p = i
   ·rw [if_pos hpi, if_pos (by rw [hpi])]; exact hgx x _ _
   ·rw [if_neg hpi, if_neg (fun h => hpi (by cases h; rfl))]; exact htWN W1 N Y ρ1 j1 j5 j6' r1 i
  refine wpIn_mono (hassign pre x post gg hxs hI lp W1 M1 _ _ W1 ha1) ?_;rintro e a1 W2 ⟨s', ha2, rfl, rfl⟩;obtain ⟨ρ2, hm2, _, ht2⟩ := ha2.ex
  have hnl : ¬ (E.turnO lp (m gg) o fun id => (ρ1 id).getD none).lent lp := fun h => by obtain ⟨id, ow, h1, h2⟩ := (l1 _).1 h; exact (hlow id ow h1).1 h2
  have hnD : ¬ (E.turnO lp (m gg) o fun id => (ρ1 id).getD none).lent D := fun h => by obtain ⟨id, ow, h1, h2⟩ := (l1 _).1 h; exact (hlow id ow h1).2 h2
  have e3 : W2.heap[lp]? = some (.loop (rec .ready none)) := (hm2.below.block lp hlpW1 hnl).trans j3;have e4 : W2.heap[D]? = some (.deferred (some [])) := (hm2.below.block D (by omega) hnD).trans j4;refine ⟨_, run_beginRound e3 (by rw [hrec]), ?_⟩;have hlpW2 : lp < W2.heap.size := Nat.lt_of_lt_of_le hlpW1 hm2.below.size;have hρ2 : ∀ id y, ¬ lsO o id → ρ1 id = some y → ρ2 id = some y := fun id y hi h => hm2.keep id y ((turnO_look (hkb gg)).2 ⟨hi, r2 id y h, by simp only [h, Option.getD_some]⟩)
  have hne2 : ∀ id ow, ρ2 id = some (some ow) → ow.b ≠ lp := fun id ow h e => by
   rcases (hm2.fresh id ow h).1 with g | g
   ·omega
   ·exact hnl (e ▸ g)
  have hne2D : ∀ id ow, ρ2 id = some (some ow) → ow.b ≠ D := fun id ow h e => by
   rcases (hm2.fresh id ow h).1 with g | g
   ·omega
   ·exact hnD (e ▸ g)
  have hMM : ∀ b, ((Mo b ∨ N b) ∨ Y b) → owned M1 ρ2 b := fun b h => by
   by_cases hs : ∃ id ow, ¬ lsO o id ∧ ρ1 id = some (some ow) ∧ ow.b = b
   ·obtain ⟨id, ow, h1, h2, h3⟩ := hs;exact .inr ⟨id, ow, hρ2 id _ h1 h2, h3⟩
   ·exact .inl (by rw [← hM1]; exact ⟨h, hs⟩)
  have hh2 : ∀ b, b < W2.heap.size → ¬ owned M1 ρ2 b → (W2.putObj lp (.loop { rec .ready none with state := .busy })).heap[b]? = W2.heap[b]? := fun b _ hno =>
   World.putObj_heap_other fun e => hno (by rw [e]; exact hMM lp (.inl (.inl (.inr (.inr rfl)))))
  have hx2 : ∀ id blk, lookO (S1 gg x).mem id = some blk → ρ2 id = some ((ρ2 id).getD none) := fun id blk h => by
   obtain ⟨y, hy⟩ := (hm2.blk id blk h).has (List.all_eq_true.1 (hlive1 gg x) _ (lookO_mem _ h));rw [hy]; rfl
  obtain ⟨o2, l2, mr2⟩ := mrel_turnO (E := E) (x := fun id => (ρ2 id).getD none) lp o (mem := (S1 gg x).mem) (W := W2.putObj lp (.loop { rec .ready none with state := .busy })) (Mo := owned M1 ρ2) (fun b h => by rw [put_size]; exact hm2.lt b h)
   (GlOk.grow (E := E) hm2.glob (by rw [put_size]; exact Nat.le_refl _) hh2) hm2.dom hx2 (fun id ow h => .inr ⟨id, ow, h, rfl⟩) hm2.inj
   (fun id blk hb => (hm2.blk id blk hb).mono none (by simp) (noref_none _) (fun ow ho => World.putObj_heap_other (hne2 id ow ho)) hh2 (fun _ _ h => h) (fun _ _ _ => rfl)) (by rw [put_size]; have := hm2.below.size; omega) (hkb1 gg x) (hxc1 ρ2)
  generalize hM2 : (fun b => owned M1 ρ2 b ∧ ¬ ∃ id ow, ¬ lsO o id ∧ ρ2 id = some (some ow) ∧ ow.b = b) = M2 at *;have had : a1.defers = [] := ha2.defers rfl
  have ha3 : ARel (E.turnO lp (S1 gg x).mem o fun id => (ρ2 id).getD none) (W2.putObj lp (.loop { rec .ready none with state := .busy })) M2 (S1 gg x) a1 (W2.putObj lp (.loop { rec .ready none with state := .busy })) := by
   refine ⟨fun _ => had, ha2.size, ρ2, mr2, by rw [had]; exact Marks.nil, fun i => ?_⟩;rw [o2];exact (ht2 i).mono none (by cases (S1 gg x).get i <;> rfl) hh2 (fun _ _ h => h) (fun _ _ _ => rfl)
  refine wpIn_mono (hbody pre x post gg hxs hI lp _ M2 _ a1 _ ha3) ?_;rintro e2 a2 W3 ⟨s3, ha4, hq⟩;obtain ⟨ρ3, hm3, _, _⟩ := ha4.ex
  have hnl2 : ¬ (E.turnO lp (S1 gg x).mem o fun id => (ρ2 id).getD none).lent lp := fun h => by obtain ⟨id, ow, h1, h2⟩ := (l2 _).1 h; exact hne2 id ow h1 h2
  have hnD2 : ¬ (E.turnO lp (S1 gg x).mem o fun id => (ρ2 id).getD none).lent D := fun h => by obtain ⟨id, ow, h1, h2⟩ := (l2 _).1 h; exact hne2D id ow h1 h2
  have f3 : W3.heap[lp]? = some (.loop { rec .ready none with state := .busy }) := (hm3.below.block lp (by rw [put_size]; exact hlpW2) hnl2).trans (World.putObj_heap_same hlpW2);have f4 : W3.heap[D]? = some (.deferred (some [])) := (hm3.below.block D (by rw [put_size]; omega) hnD2).trans ((World.putObj_heap_other (by omega)).trans e4)
  have b13 : BelowX (fun b => b = lp ∨ ∃ id ow, ρ1 id = some (some ow) ∧ ow.b = b) W1 W3 := by
   have hb := hm3.below;have hb2 := hm2.below;refine ⟨hb.os.trans hb2.os, hb.tape.trans hb2.tape, hb.output.trans hb2.output, by have := hb.size; rw [put_size] at this; exact Nat.le_trans hb2.size this, fun k hk hl => ?_⟩;refine (hb.block k (by rw [put_size]; exact Nat.lt_of_lt_of_le hk hb2.size) ?_).trans ((World.putObj_heap_other fun e => hl (.inl e)).trans (hb2.block k hk fun h => hl (.inr ((l1 k).1 h))));intro h;obtain ⟨id, ow, h1, rfl⟩ := (l2 _).1 h
   rcases (hm2.fresh id ow h1).1 with g | g
   ·omega
   ·exact hl (.inr ((l1 _).1 g))
  have hρ3 : ∀ id y, ¬ lsO o id → ρ2 id = some y → ρ3 id = some y := fun id y hi h => hm3.keep id y ((turnO_look (hkb1 gg x)).2 ⟨hi, hm2.dom id y h, by simp only [h, Option.getD_some]⟩)
  have hsub3 : ∀ b, ((Mo b ∨ N b) ∨ Y b) → owned M2 ρ3 b := fun b h => by
   by_cases hs : ∃ id ow, ¬ lsO o id ∧ ρ2 id = some (some ow) ∧ ow.b = b
   ·obtain ⟨id, ow, h1, h2, h3⟩ := hs;exact .inr ⟨id, ow, hρ3 id _ h1 h2, h3⟩
   ·exact .inl (by rw [← hM2]; exact ⟨hMM b h, hs⟩)
  have hold3 : ∀ id ow, ρ3 id = some (some ow) → (∃ id0 ow0, ρ id0 = some (some ow0) ∧ ow0.b = ow.b) ∨ Y ow.b ∨ W1.heap.size ≤ ow.b := fun id ow h => by
   have hst : ∀ b, (∃ id ow, ρ1 id = some (some ow) ∧ ow.b = b) → (∃ id0 ow0, ρ id0 = some (some ow0) ∧ ow0.b = b) ∨ Y b ∨ W1.heap.size ≤ b := by
    rintro b ⟨i1, o1, q1, rfl⟩
    rcases r4 i1 o1 q1 with q | q
    ·exact .inl q
    ·exact .inr (.inl q)
   rcases (hm3.fresh id ow h).1 with g | g
   ·rw [put_size] at g;exact .inr (.inr (Nat.le_trans hm2.below.size g))
   ·obtain ⟨i2, o2', q1, q2⟩ := (l2 _).1 g
    rcases (hm2.fresh i2 o2' q1).1 with g | g
    ·exact .inr (.inr (q2 ▸ g))
    ·rw [← q2]; exact hst _ ((l1 _).1 g)
  have fin : ∀ (mx : Mem) (jump : Option Code), sameIds (m g0) mx → closedL mx = true → MemL s3 mx →
    ∃ W4, (Instr.endRound lp jump).run E.P W3 = .ok (.bool jump.isNone) W4 ∧ BelowX (fun b => (Mo b ∧ b ≠ b0) ∨ Y b) W1 W4 ∧ ∃ Y5, (∀ b, Y5 b → (Y b ∨ W1.heap.size ≤ b) ∧ b < W4.heap.size) ∧ JmZ b0 ρ Mo N Y5 o lp D w2 (.loop (rec (if jump.isNone then .ready else .done) jump)) mx W4 := by
   intro mx jump hs hgd hml;simp only [closedL, Bool.and_eq_true] at hgd;have hr := run_endRound (P := E.P) jump f3
   have hrr : ({ ({ rec .ready none with state := .busy } : Loop) with state := if jump.isNone then .ready else .done, pending := jump } : Loop) = rec (if jump.isNone then .ready else .done) jump := by rw [hrec]
   rw [hrr] at hr;have b14 : BelowX (fun b => b = lp ∨ ∃ id ow, ρ1 id = some (some ow) ∧ ow.b = b) W1 (W3.putObj lp (.loop (rec (if jump.isNone then .ready else .done) jump))) := b13.trans (put_belowX _ _ _ (.inl rfl))
   let ρ5 : Rho := fun id => if (lookO mx id).isSome = true then ρ3 id else none
   have h5 : ∀ id, (lookO mx id).isSome = true → ρ5 id = ρ3 id := fun id hi => by simp only [ρ5, if_pos hi]
   have h5' : ∀ id y, ρ5 id = some y → ρ3 id = some y ∧ (lookO mx id).isSome = true := by
    intro id y hy;simp only [ρ5] at hy
    split at hy
    ·rename_i hi; exact ⟨hy, hi⟩
    ·cases hy
   let Y5 : Nat → Prop := fun b => Y b ∨ (W1.heap.size ≤ b ∧ ∃ id ow, ρ5 id = some (some ow) ∧ ow.b = b)
   have hY5 : ∀ b, Y5 b → (Y b ∨ W1.heap.size ≤ b) ∧ b < W3.heap.size := by
    rintro b (h | ⟨h, id, ow, h1, rfl⟩)
    ·exact ⟨.inl h, Nat.lt_of_lt_of_le (j6 b h).2 b13.size⟩
    ·exact ⟨.inr h, (hm3.fresh id ow (h5' id _ h1).1).2⟩
   have hY5' : ∀ b, Y5 b → w2.heap.size ≤ b := fun b hb => (hY5 b hb).1.elim (j6' b) fun h => Nat.le_trans j1.size h
   have r45 : ∀ id ow, ρ5 id = some (some ow) → (∃ id0 ow0, ρ id0 = some (some ow0) ∧ ow0.b = ow.b) ∨ Y5 ow.b := fun id ow h => by
    rcases hold3 id ow (h5' id _ h).1 with q | q | q
    ·exact .inl q
    ·exact .inr (.inl q)
    ·exact .inr (.inr ⟨q, id, ow, h, rfl⟩)
   have hne5 : ∀ id ow, ρ5 id = some (some ow) → ow.b ≠ lp := fun id ow h => by
    rcases r45 id ow h with ⟨i0, o0, q1, q2⟩ | q
    ·have := hρlt i0 o0 q1; omega
    ·have := hY5' _ q; omega
   have hmxs : ∀ id, (∃ b, lookO mx id = some b) ↔ ∃ b, lookO (m gg) id = some b := fun id => by rw [look_ids, hs, ← hids gg, ← look_ids]
   refine ⟨_, hr, b14.mono ?_, Y5, fun b hb => ⟨(hY5 b hb).1, by rw [put_size]; exact (hY5 b hb).2⟩, ?_, World.putObj_heap_same (Array.getElem?_eq_some_iff.1 f3).1, (World.putObj_heap_other (by omega)).trans f4, j5, fun b hb => ⟨hY5' b hb, by rw [put_size]; exact (hY5 b hb).2⟩, ρ5, fun id hi => ?_, fun id y hy => Option.isSome_iff_exists.1 (h5' id y hy).2, fun id id' ow ow' h h' => hm3.inj id id' ow ow' (h5' id _ h).1 (h5' id' _ h').1, r45, fun id blk hb => ?_⟩
   ·rintro b (h | ⟨id, ow, h, rfl⟩)
    ·exact .inl ⟨.inr (.inr h), by omega⟩
    ·rcases r4 id ow h with ⟨i0, o0, q1, q2⟩ | q
     ·exact .inl ⟨q2 ▸ hsubMo i0 o0 q1, q2 ▸ hne0 i0 o0 q1⟩
     ·exact .inr q
   ·refine ⟨b14.os.trans j1.os, b14.tape.trans j1.tape, b14.output.trans j1.output, Nat.le_trans j1.size b14.size, fun k hk hl => (b14.block k (Nat.lt_of_lt_of_le hk j1.size) ?_).trans (j1.block k hk hl)⟩;rintro (h | ⟨id, ow, h, rfl⟩)
    ·exact hl (.inl h)
    ·rcases r4 id ow h with ⟨i0, o0, q1, q2⟩ | q
     ·exact hl (.inr (.inr ⟨i0, o0, q1, q2⟩))
     ·have := j6' _ q; omega
   ·cases hq : lookO mx id with
    | some b =>
     obtain ⟨b', hb'⟩ := (hmxs id).1 ⟨b, hq⟩;have h1 := hx1 id b' hb';rw [h5 id (by rw [hq]; rfl), hρ3 id _ hi (hρ2 id _ hi h1), ← h1, r1 id hi]
    | none =>
     have h1 : ρ5 id = none := by simp only [ρ5, hq]; rfl
     rw [h1]
     cases hr0 : ρ id with
     | none => rfl
     | some y =>
      obtain ⟨b, hb⟩ := r2 id y (by rw [r1 id hi]; exact hr0);obtain ⟨b', hb'⟩ := (hmxs id).2 ⟨b, hb⟩;rw [hq] at hb'; cases hb'
   ·have hi : (lookO mx id).isSome = true := by rw [hb]; rfl
    have h6 : BRel W3 (fun b => (Mo b ∨ N b) ∨ Y5 b) ρ5 id blk := BRel.clo hi (List.all_eq_true.1 hgd.2 _ (lookO_mem _ hb)) (hm3.blk id blk (memL_look hml id blk hb)) (fun b h => by
     rcases h with h | h | ⟨_, i3, o3, h, rfl⟩
     ·exact hsub3 b (.inl h)
     ·exact hsub3 b (.inr h)
     ·exact .inr ⟨i3, o3, (h5' i3 _ h).1, rfl⟩) h5
    exact h6.mono none (by simp) (noref_none _) (fun ow ho => World.putObj_heap_other (hne5 id ow ho)) (fun b _ hno => World.putObj_heap_other fun e => hno (.inl (.inl (.inr (.inr e))))) (fun _ _ h => h) (fun _ _ _ => rfl)
  cases e2 with
  | normal =>
   obtain ⟨g', hI', hq⟩ := hq;obtain ⟨W4, g1, g2, Y5, g3, g4⟩ := fin (m g') none (hids _) (hgood _) hq;exact ⟨_, W4, g1, g2, _, rfl, Y5, g3, ⟨(fun _ => ⟨g', hI', g4⟩), (fun h => by cases h)⟩⟩
  | ret =>
   obtain ⟨mx, q1, q2, q3, q4⟩ := hq;obtain ⟨W4, g1, g2, Y5, g3, g4⟩ := fin mx (some .ret) q2 q3 q4;exact ⟨_, W4, g1, g2, _, rfl, Y5, g3, ⟨(fun h => by cases h), fun _ => ⟨_, mx, q1, q2, g4⟩⟩⟩
  | exit id =>
   obtain ⟨mx, q1, q2, q3, q4⟩ := hq;obtain ⟨W4, g1, g2, Y5, g3, g4⟩ := fin mx (some (.exit id)) q2 q3 q4;exact ⟨_, W4, g1, g2, _, rfl, Y5, g3, ⟨(fun h => by cases h), fun _ => ⟨_, mx, q1, q2, g4⟩⟩⟩
  | _ => exact hq.elim
 ·-- AT THE START
  refine ⟨fun _ => ⟨g0, hg0, BelowX.refl _ w2, hL, hD, (fun _ h => .inr h), (fun _ h => h.elim), ρ, (fun _ _ => rfl), hm.dom, hm.inj, (fun id ow h => .inl ⟨id, ow, h, rfl⟩), fun id blk hb => ?_⟩, fun h => by cases h⟩;exact (hblk id blk hb).mono none (by simp) (noref_none _) (fun ow ho => hgr.block _ (by have := hρlt id ow ho; omega)) hgr.hh (fun b hb h => hMoSub b hb (h.elim (fun h => h.elim (fun h => h) (fun h => .inl (h ▸ hZ2))) (fun h => h.elim))) (fun _ _ _ => rfl)
 ·-- BEHIND THE ITERATOR
  rintro e W' ⟨⟨v, rfl⟩, Y, _, ⟨hJ, _⟩ | ⟨pre, _, hJ⟩⟩
  ·obtain ⟨gg, hI, hJ⟩ := hJ rfl;refine ⟨none, _, ?_, _, back _ _ _ _ _ _ (hids gg) hJ, hdone gg hI⟩;have := run_endLoop (P := E.P) hJ.2.1 (by rw [hrec]; simp);rw [this, hrec]
  ·obtain ⟨co, mx, q1, q2, hJ⟩ := hJ rfl;have hl := run_endLoop (P := E.P) hJ.2.1 (by rw [hrec]; simp);have hb := hstop co pre mx q1 _ _ (back _ _ _ _ _ _ q2 hJ);rw [hF] at hb
   have hpe : (rec .done (some co)).pending = some co := by rw [hrec]
   refine ⟨some co, _, ?_, hb⟩;rw [hl];subst hrec
   rfl
theorem aw_rangeCZ {α γ : Type} {gop : Operand} {p p2 : Tmp} {assign body : Code} {Q : Exit → ASt → Prop} {n : Nat} {l : List (Nat × TV)} {gf : FuncId} {enc : α → Value × Value} {s : ASt} {str : ByteArray} {ty : TypeId} {kc : Nat}
  (c kb : Nat) (xs : List α) (m : γ → Mem) (I : List α → γ → Prop) (g0 : γ) (S1 : γ → α → (Nat → TV) × Mem)
  (hn : s.n = n) (hwk : WeakL s l) (hwm : MemL s (m g0)) (hcl : closedB l (m g0) = true)
  (hg : ASt.eval E s gop = .fnp gf false kc) (hI : lookO s.mem kc = some (.tbox ty [.g (.str str)])) (hkc : lookO (m g0) kc = none) (hk : Known E.P gf) (hseq : SeqZ E gf ty str enc xs) (gx gx2 : α → G) (hgx : ∀ x w M, (gx x).p w M (enc x).1) (hgx2 : ∀ x w M, (gx2 x).p w M (enc x).2)
  (hI0 : I [] g0) (hp : Nat.blt p n = true) (hp2 : Nat.blt p2 n = true) (hids : ∀ g, sameIds (m g0) (m g)) (hgood : ∀ g, closedL (m g) = true)
  (hkbc : Nat.beq kb c = false) (hkb : ∀ g, (lookO (m g) kb).isSome = true) (hkb1 : ∀ g x, (lookO (S1 g x).2 kb).isSome = true) (htc : l.all (fun q => noref (some c) q.2) = true)
  (hassign : ∀ x g lp w1 M1 x1, AWp (E.turnO lp (m g) (some (c, kb)) x1) w1 M1 assign (fun e s' => e = .normal ∧ s' = ⟨n, (S1 g x).1, (S1 g x).2⟩) ⟨n, upd p2 (.g (gx2 x)) (upd p (.g (gx x)) (lookT l)), m g⟩)
  (hlive1 : ∀ g x, liveM (S1 g x).2 = true)
  (hbody : ∀ pre x post g, xs = pre ++ x :: post → I pre g → ∀ lp w1 M1 x1, AWp (E.turnO lp (S1 g x).2 (some (c, kb)) x1) w1 M1 body (fun e s' => e = .normal ∧ ∃ g', I (pre ++ [x]) g' ∧ MemL s' (m g')) ⟨n, (S1 g x).1, (S1 g x).2⟩)
  (hdone : ∀ g, I xs g → Q .normal ⟨n, lookT l, m g⟩)
  (hbw : bowIn E (m g0) = true := by rfl) (hbw0 : E.bow = [] := by rfl) (hmk : E.mks = true := by rfl) (hrn : E.rnd = none := by rfl) : AWp E w0 M0 (.rangeFunc gop #[p, p2] assign body) Q s := by
 have hne : kb ≠ c := fun e => by rw [e, Nat.beq_refl] at hkbc; cases hkbc
 simp only [closedB, Bool.and_eq_true, List.all_eq_true] at hcl;subst hn;refine aw_rangeFuncZ (tI := s.tmps) (mI := s.mem) (t := lookT l) (some (c, kb)) m I g0 (fun g x => ⟨s.n, (S1 g x).1, (S1 g x).2⟩) (fun _ _ _ => False) hmk hrn hk (Nat.le_of_ble_eq_true hp) (Nat.le_of_ble_eq_true hp2) hg hI hwm hkc (fun i => ?_) hbw hbw0 hseq gx gx2 hgx hgx2 hI0 hids hgood
  (fun pre x post g _ _ lp w1 M1 x1 => hassign x g lp w1 M1 x1) hlive1 ?_ (fun g _ _ e => by cases e; exact ⟨Option.isSome_iff_exists.1 (hkb g), hne⟩) (fun g x _ _ e => by cases e; exact ⟨Option.isSome_iff_exists.1 (hkb1 g x), hne⟩) (fun _ ⟨_, e⟩ => by rw [hbw0]; rfl) (noref_look htc) hdone (fun _ _ _ h => h.elim)
 ·rcases weakL_get hwk i with h | ⟨h4, v, h5, h6⟩
  ·exact .inl h
  ·refine .inr ⟨h4, ?_⟩;rw [h6];exact hcl.1 (i, v) h5
 ·intro pre x post g hxs hI lp w1 M1 x1;refine (hbody pre x post g hxs hI lp w1 M1 x1).mono ?_;rintro e s' ⟨rfl, g', h1, h2⟩;exact ⟨g', h1, h2⟩
end
end Go.Sim
namespace Go.Proofs
open Go.RowKit Go.Shelf
attribute [local go_sem] Oper.semAt_some
def enumB : Nat → List ByteArray → List (Int × ByteArray)
 | _, [] => []
 | k, p :: ps => ((k : Int), p) :: enumB (k + 1) ps
def catB : List ByteArray → ByteArray
 | [] => ByteArray.empty
 | p :: ps => p ++ catB ps
def IsLn (p : ByteArray) : Prop := ∃ q : List UInt8, p.data.toList = q ++ [10] ∧ (10 : UInt8) ∉ q
abbrev encP (x : Int × ByteArray) : Value × Value := (.int .i64 x.1, .string x.2)
theorem enumB_length : ∀ (k : Nat) (ps : List ByteArray), (enumB k ps).length = ps.length
 | _, [] => rfl
 | k, p :: ps => by simp [enumB, enumB_length (k + 1) ps]
theorem idx_at : ∀ (q r : List UInt8), (10 : UInt8) ∉ q → Lib.indexByte (q ++ 10 :: r) (10 : Int).toNat.toUInt8 = (q.length : Int) := by
 intro q r h
 induction q with
 | nil => rfl
 | cons b q ih =>
  have hb : ¬ b = 10 := fun e => h (by rw [e]; exact List.mem_cons_self);have ih' := ih fun hm => h (List.mem_cons_of_mem _ hm);show (if b == ((10 : Int).toNat.toUInt8) then (0 : Int) else if Lib.indexByte (q ++ 10 :: r) ((10 : Int).toNat.toUInt8) == -1 then -1 else Lib.indexByte (q ++ 10 :: r) ((10 : Int).toNat.toUInt8) + 1) = _;rw [ih', if_neg (by simpa using hb), if_neg (by intro e; have := eq_of_beq e; omega)];rw [List.length_cons]; omega
theorem ba_ext {a b : ByteArray} (h : a.data.toList = b.data.toList) : a = b := by
 cases a; cases b
 congr 1
 exact Array.toList_inj.1 h
theorem ext_l (p r : ByteArray) : (p ++ r).extract 0 p.size = p := ba_ext (by
 obtain ⟨⟨l⟩⟩ := p;obtain ⟨⟨l'⟩⟩ := r
 simp only [ByteArray.data_extract, ByteArray.data_append, ByteArray.size, List.append_toArray, List.size_toArray, List.extract_toArray, List.extract_eq_take_drop, Nat.sub_zero, List.drop_zero, List.take_left])
theorem ext_r (p r : ByteArray) : (p ++ r).extract p.size (p ++ r).size = r := ba_ext (by
 obtain ⟨⟨l⟩⟩ := p;obtain ⟨⟨l'⟩⟩ := r
 simp only [ByteArray.data_extract, ByteArray.data_append, ByteArray.size, List.append_toArray, List.size_toArray, List.extract_toArray, List.extract_eq_take_drop, List.drop_left, List.length_append, Nat.add_sub_cancel_left, List.take_length])
set_option maxRecDepth 100000 in
set_option maxHeartbeats 1000000 in
theorem texts1_in (l b0 : Nat) (ps0 : List ByteArray) (hps : ∀ p ∈ ps0, IsLn p) (hsz : (catB ps0).size ≤ 1000000) (hl0 : ps0.length ≤ 1000000) (M : Nat → Prop) (J : Go.Sim.NY → List (Int × ByteArray) → Bool → World → Prop) (w : World) (hb0 : w.heap[b0]? = some (.cells #[.string (catB ps0)] 9 (0, 0)))
  (hJt : ∀ N pre st W W', J N pre st W → (∀ b, N.y b → ¬ N.n b) → Go.Sim.BelowX N.n W W' → J N pre st W')
  (hY : ∀ (N : Go.Sim.NY) pre x post W1, enumB 0 ps0 = pre ++ x :: post → (∀ b, N.n b → (w.heap.size ≤ b ∨ b = b0) ∧ b < W1.heap.size) → (∀ b, N.y b → (w.heap.size ≤ b ∧ b < W1.heap.size) ∧ ¬ N.n b) → J N pre false W1 → YieldAt Fence.wide 0 Tryz.prog l #[(encP x).1, (encP x).2] W1 fun e W' =>
   Go.Sim.BelowX (fun b => (M b ∧ b ≠ b0) ∨ N.y b) W1 W' ∧ ∃ b, e = .returned (.bool b) ∧ ∃ Y, (∀ b, Y b → (N.y b ∨ W1.heap.size ≤ b) ∧ b < W'.heap.size) ∧ J ⟨N.n, Y⟩ (pre ++ [x]) (!b) W')
  (h0 : J ⟨fun b => b = b0, fun _ => False⟩ [] false w) :
  CallsIn Fence.wide 0 Tryz.prog 110 #[.func (.yield l) #[] #[], .pointer (some ⟨b0, 0, none⟩)] w fun e W' => (∃ v, e = .returned v) ∧ ∃ Y, (∀ b, Y b → w.heap.size ≤ b ∧ b < W'.heap.size) ∧ (J ⟨fun b => b = b0, Y⟩ (enumB 0 ps0) false W' ∨ ∃ pre, J ⟨fun b => b = b0, Y⟩ pre true W') := by
 refine callsIn_of_wp Tryz.func110 rfl trivial ?_ rfl;simp only [Tryz.ntmps110, List.size_toArray, List.length_cons, List.length_nil, Nat.reduceAdd, Nat.reduceSub, Array.replicate_succ, Array.replicate_zero, List.push_toArray, List.append_toArray, List.nil_append, List.cons_append];have hb0lt : b0 < w.heap.size := (Array.getElem?_eq_some_iff.1 hb0).1
 gi_wp2
 gi_loopw [3] (fun p wr => ∃ (pre : List (Int × ByteArray)) (rest : List ByteArray) (Y : Nat → Prop), p = .int .i64 (pre.length : Int) ∧ enumB 0 ps0 = pre ++ enumB pre.length rest ∧ (∀ q ∈ rest, IsLn q) ∧ (catB rest).size ≤ 1000000 ∧ pre.length + rest.length ≤ 1000000 ∧ wr.heap[b0]? = some (.cells #[.string (catB rest)] 9 (0, 0)) ∧ w.heap.size ≤ wr.heap.size ∧ (∀ b, Y b → w.heap.size ≤ b ∧ b < wr.heap.size) ∧ J ⟨fun b => b = b0, Y⟩ pre false wr)
  (fun p _ => ps0.length - (intOf p).toNat)
 case atStart => exact ⟨[], ps0, fun _ => False, rfl, rfl, hps, hsz, by simpa using hl0, hb0, Nat.le_refl _, fun _ h => h.elim, h0⟩
 case round =>
  obtain ⟨pre, rest, Y, rfl, hx, hq, hz, hn, c0, hw, hYb, hJs⟩ := hrel
  have d0 : wr.cell? ⟨b0, 0, none⟩ = some (.string (catB rest)) := by rw [Lib.cell_of_heap c0]; rfl
  cases rest with
  | nil =>
   have he : (catB []).toList.isEmpty = true := by rw [ByteArray.toList_eq]; rfl
   gi_wp2
   go_end0
   refine ⟨⟨_, rfl⟩, Y, hYb, .inl ?_⟩;rw [hx]
   simpa [enumB] using hJs
  | cons p ps =>
   obtain ⟨q, hpq, hno⟩ := hq p List.mem_cons_self
   have hps0 : p.size = q.length + 1 := by rw [show p.size = p.data.toList.length from rfl, hpq]; simp
   have hcs : (catB (p :: ps)).size = q.length + 1 + (catB ps).size := by show (p ++ catB ps).size = _; rw [ByteArray.size_append, hps0]
   have he : (catB (p :: ps)).toList.isEmpty = false := by
    cases hh : (catB (p :: ps)).toList.isEmpty with
    | false => rfl
    | true =>
     exfalso
     have := List.isEmpty_iff.1 hh;have h2 := congrArg List.length this;rw [ByteArray.toList_eq] at h2;have h3 : (catB (p :: ps)).data.toList.length = 0 := h2;have : (catB (p :: ps)).data.toList.length = (catB (p :: ps)).size := rfl
     omega
   have hix : Lib.indexByte (catB (p :: ps)).data.toList (10 : Int).toNat.toUInt8 = (q.length : Int) := by
    have e : (catB (p :: ps)).data.toList = q ++ 10 :: (catB ps).data.toList := by
     show (p ++ catB ps).data.toList = _
     simp [hpq]
    rw [e];exact idx_at q _ hno
   have hs1 : (catB (p :: ps)).extract 0 (q.length + 1) = p := by rw [← hps0]; exact ext_l p _
   have hs2 : (catB (p :: ps)).extract (q.length + 1) (catB (p :: ps)).size = catB ps := by rw [← hps0]; exact ext_r p _
   have k3 : ((q.length : Int) + 1 == 0) = false := by rw [beq_eq_false_iff_ne]; omega
   have k1 : (0 : Int) ≤ (q.length : Int) + 1 := by omega
   have k2 : (q.length : Int) + 1 ≤ ((catB (p :: ps)).size : Int) := by omega
   gi_wp2
   refine ⟨trivial, rfl, (callsIn_wide.2 (Tryz.strings_IndexByte _ _ _)).mono ?_⟩;rintro e w' ⟨rfl, rfl⟩;rw [hix]
   gi_wp2
   obtain ⟨fn, tmps, assign, body, hy, hR⟩ := hY ⟨fun b => b = b0, Y⟩ pre ((pre.length : Int), p) (enumB (pre.length + 1) ps) w' hx (fun b hb => ⟨.inr hb, by rw [hb]; omega⟩) (fun b hb => ⟨hYb b hb, by have := hYb b hb; omega⟩) hJs;dsimp only [encP] at hy
   gi_wp2
   refine ⟨rfl, hR.mono ?_⟩;rintro e W3 ⟨hB, bb, rfl, Y3, hY3, hJ3⟩
   have hlt' : b0 < w'.heap.size := by omega
   have c3 : W3.heap[b0]? = some (.cells #[.string (catB (p :: ps))] 9 (0, 0)) := (hB.block b0 hlt' (fun h => h.elim (fun h => h.2 rfl) (fun h => by have := hYb b0 h; omega))).trans c0
   have d3 : W3.cell? ⟨b0, 0, none⟩ = some (.string (catB (p :: ps))) := by rw [Lib.cell_of_heap c3]; rfl
   have f3 : W3.frozen? ⟨b0, 0, none⟩ = false := Lib.frozen_of_heap c3 0;have hsz3 := hB.size;have hY3' : ∀ b, Y3 b → w.heap.size ≤ b ∧ b < W3.heap.size := fun b hb => ⟨(hY3 b hb).1.elim (fun h => (hYb b h).1) (fun h => by omega), (hY3 b hb).2⟩
   cases bb with
   | true =>
    gi_wp2
    have hs3 : (catB (p :: ps)).extract (q.length + 1) (q.length + 1 + (catB ps).size) = catB ps := by rw [← hcs]; exact hs2
    have hlen := congrArg List.length hx;rw [List.length_append, enumB_length, enumB_length, List.length_cons] at hlen;have hn2 : pre.length + (ps.length + 1) ≤ 1000000 := hn;rw [hs3];refine ⟨⟨pre ++ [((pre.length : Int), p)], ps, Y3, by simp, by rw [hx]; simp [enumB], fun z hz => hq z (List.mem_cons_of_mem _ hz), by omega, by simp; omega, by simp [World.setCell, Array.getElem?_modify, c3], by simp [World.setCell]; omega, fun b hb => by have := hY3' b hb; simp [World.setCell]; omega, ?_⟩, by simp only [intOf]; omega⟩;refine hJt _ _ _ _ _ hJ3 (fun b hb h => by have := hY3' b hb; have h : b = b0 := h; omega) ⟨rfl, rfl, rfl, by simp [World.setCell], fun k _ hk => Below.heap_setCell _ _ _ _ hk⟩
   | false =>
    gi_wp2
    refine bodyPost_ret (results_none rfl _ _ _) rfl ?_;exact ⟨⟨_, rfl⟩, Y3, hY3', .inr ⟨_, hJ3⟩⟩
end Go.Proofs
namespace Go.Sim
open Go.Proofs Go.RowKit Go.Shelf
theorem texts1_seq (ps : List ByteArray) (hps : ∀ p ∈ ps, IsLn p) (hsz : (catB ps).size ≤ 1000000) (hl0 : ps.length ≤ 1000000) {g : GL} : SeqZ (EG g) 110 9 (catB ps) encP (enumB 0 ps) := by
 intro w M b0 l J hM _ hMb hb0 hJt hJk hY h0;refine (texts1_in l b0 ps hps hsz hl0 M J w hb0 hJt hY h0).mono ?_;rintro e W' ⟨h1, Y, h2, h3⟩;exact ⟨h1, Y, h2, h3.imp (fun h => hJk _ _ _ _ _ h (fun _ h => h.elim)) (fun ⟨pre, h⟩ => ⟨pre, hJk _ _ _ _ _ h (fun _ h => h.elim)⟩)⟩
open Go.Proofs Go.Lib
theorem c6086_e {g : GL} {s p C : ByteArray} {b : Bool} (hs : s.size ≤ 9223372036854775807) (h : wB (Lib.trimSuffix s.data.toList p.data.toList) = C) (h2 : Lib.hasSuffix s.data.toList p.data.toList = b) : Con (EG g) 86 [G.str s, G.str p] (G.tup [G.str C, G.bool b]) := by
 subst h h2;exact c6086 s p hs
theorem c6030_e {g : GL} [GlR g] {s : ByteArray} {W : List ByteArray} (hs : s.size < 4294967281) (h : s6030 s sepB = W) : Con (EG g) 30 [G.str s, G.str sepB] (G.sl 1 (W.map cStr)) := by
 subst h;exact c6030 s sepB hs (by decide)
theorem c6088_e {g : GL} {s : ByteArray} {w n : Int} {b : Bool} (h : s6088 s w = (n, b)) : Con (EG g) 88 [G.str s, G.int w] (G.tup [G.int n, G.bool b]) := by
 have h_ := c6088 (g := g) s w;rw [h] at h_;exact h_
theorem cut_nl (C : ByteArray) : wB (Lib.trimSuffix (C ++ (⟨#[10]⟩ : ByteArray)).data.toList (⟨#[10]⟩ : ByteArray).data.toList) = C ∧ Lib.hasSuffix (C ++ (⟨#[10]⟩ : ByteArray)).data.toList (⟨#[10]⟩ : ByteArray).data.toList = true := by
 have e1 : (C ++ (⟨#[10]⟩ : ByteArray)).data.toList = C.data.toList ++ [10] := by simp
 have e2 : (⟨#[10]⟩ : ByteArray).data.toList = [10] := rfl
 have h2 : Lib.hasSuffix (C.data.toList ++ [10]) [10] = true := by unfold Lib.hasSuffix; simp
 rw [e1, e2];refine ⟨?_, h2⟩;unfold Lib.trimSuffix;rw [if_pos h2]
 simp [wB]
theorem c6086_nl {g : GL} {s C : ByteArray} (h : s = C ++ (⟨#[10]⟩ : ByteArray)) (hs : s.size ≤ 1000000) : Con (EG g) 86 [G.str s, G.str (⟨#[10]⟩ : ByteArray)] (G.tup [G.str C, G.bool true]) := by
 subst h;exact c6086_e (by omega) (cut_nl C).1 (cut_nl C).2
structure HdrR (a : S6051) (T C SL N5 : ByteArray) : Prop where
 cut : T = C ++ (⟨#[10]⟩ : ByteArray)
 tsz : T.size ≤ 1000000
 csz : C.size < 4294967281
 spl : s6030 C sepB = [SL, a.Kind, a.Airport, a.Season, N5]
 sl : SL = (⟨#[83, 76, 79, 84, 83]⟩ : ByteArray)
 num : s6088 N5 5 = (a.Day, true)
 h107 : s6107 a.Kind = true
 h108 : s6108 a.Airport a.Season a.Day = some 0
theorem h108_ok {a : S6051} (h : MOk a) : s6108 a.Airport a.Season a.Day = some 0 := by
 have hd := h.d1;have hd0 := h.d0
 have e2 : s6122 a.Season = some true := by rw [h.sea]; decide +kernel
 have e3 : s4083 a.Airport = 0 := by rw [h.air]; decide +kernel
 have e4 : s4087 a.Day 0 99999 = 0 := by
  unfold s4087;rw [show decide (a.Day < 0) = false from decide_eq_false (by omega), show decide (99999 < a.Day) = false from decide_eq_false (by omega)]; rfl
 unfold s6108;rw [e2, e3, e4]; rfl
theorem wide_no32 {n w : Int} (h0 : 0 ≤ n) (hn : n < ((10 ^ w.toNat : Nat) : Int)) (hw : 1 ≤ w) (hw2 : w ≤ 9) : (32 : UInt8) ∉ (s6084 n w).data.toList := fun h => by
 have := (word_num h0 hn hw hw2).1 _ h;exact absurd this (by decide)
theorem hdr_ok {a : S6051} (h : MOk a) : ∃ C SL N5, HdrR a (hdrB a) C SL N5 := by
 have h5 := hdr_size h;have hs0 := h.d0;have hs1 := h.d1
 have hb : ∀ w ∈ [(⟨#[83, 76, 79, 84, 83]⟩ : ByteArray), a.Kind, a.Airport, a.Season, s6084 a.Day 5], (32 : UInt8) ∉ w.data.toList := by
  intro w hw;simp only [List.mem_cons, List.not_mem_nil, or_false] at hw
  rcases hw with rfl | rfl | rfl | rfl | rfl
  ·decide
  ·rw [h.kind]; decide
  ·rw [h.air]; decide
  ·rw [h.sea]; decide
  ·exact wide_no32 hs0 (by show a.Day < 100000; omega) (by decide) (by decide)
 have hw := words_back _ (by simp) hb
 have hcut : hdrB a = s6048 [(⟨#[83, 76, 79, 84, 83]⟩ : ByteArray), a.Kind, a.Airport, a.Season, s6084 a.Day 5] sepB ++ (⟨#[10]⟩ : ByteArray) := by
  apply ba_ext
  unfold hdrB s6048
  simp [wB, join_cons2, join_one]
 refine ⟨_, _, _, hcut, by omega, ?_, hw, rfl, num_wide (w := 5) hs0 (by show a.Day < 100000; omega) (by decide) (by decide), by rw [h.kind]; decide +kernel, h108_ok h⟩;have := congrArg ByteArray.size hcut;rw [ByteArray.size_append] at this
 omega
end Go.Sim
set_option maxRecDepth 10000
namespace Go.Sim
open Go.Proofs
theorem c6087 {g : GL} [GlR g] {a0 : S6051} {T C SL N5 : ByteArray} (hH : HdrR a0 T C SL N5) : Con (EG g) 87 [G.str T] (G.tup [G.agg [G.str a0.Kind, G.str a0.Airport, G.str a0.Season, G.int a0.Day, G.lit (.slice none 0 0)], G.bool true]) := by
 refine con_of_aw Tryz.func87 rfl rfl fun w0 M0 => ?_;refine aw_seq ?_;refine aw_region [.w, .p] ?_;refine sw (eff_alloc 2 rfl z6052 rfl rfl) rfl ?_;refine sa rfl rfl ?_;refine st_nil ?_;refine aw_weak (l := [(0, .g (G.str T)), (2, .ptr 2 0), (3, .g (G.bool false))]) (m := [(2, .box [.g (G.str ByteArray.empty), .g (G.str ByteArray.empty), .g (G.str ByteArray.empty), .g (G.int 0), .g (G.lit (.slice none 0 0))])]) ⟨rfl, rfl, rfl, trivial⟩ ⟨rfl, trivial⟩ rfl ?_;refine aw_seq ?_;refine aw_region [.p, .p, .p, .p, .p, .p, .p] ?_;refine sm rfl rfl ?_;refine su (eff_call rfl K6086 rfl (c6086_nl hH.cut hH.tsz) (ag_cons rfl (ag_cons rfl ag_nil))) rfl ?_;refine sm rfl rfl ?_;refine su (eff_extract rfl rfl rfl) rfl ?_;refine su (eff_extract rfl rfl rfl) rfl ?_;refine sa rfl rfl ?_;refine sa rfl rfl ?_;refine st_nil ?_;refine aw_weak (l := [(2, .ptr 2 0), (3, .g (G.bool false)), (4, .g (G.str C)), (5, .g (G.bool true))]) (m := [(2, .box [.g (G.str ByteArray.empty), .g (G.str ByteArray.empty), .g (G.str ByteArray.empty), .g (G.int 0), .g (G.lit (.slice none 0 0))])]) jA ⟨rfl, trivial⟩ rfl ?_;refine aw_seq ?_;refine aw_region [.p, .p, .p] ?_;refine sm rfl rfl ?_;refine su (eff_call rfl K6030 rfl (c6030_e hH.csz hH.spl) (ag_cons rfl (ag_cons rfl ag_nil))) rfl ?_;refine sa rfl rfl ?_;refine st_nil ?_;refine aw_weak (l := [(2, .ptr 2 0), (3, .g (G.bool false)), (5, .g (G.bool true)), (6, .g (G.sl 1 (List.map cStr [SL, a0.Kind, a0.Airport, a0.Season, N5])))]) (m := [(2, .box [.g (G.str ByteArray.empty), .g (G.str ByteArray.empty), .g (G.str ByteArray.empty), .g (G.int 0), .g (G.lit (.slice none 0 0))])]) jA ⟨rfl, trivial⟩ rfl ?_;refine aw_seq ?_;refine aw_seq ?_;refine aw_region [.p, .p, .p, .p, .p, .p, .p, .p, .p, .p, .p, .p, .p, .p, .p, .p, .p, .p, .p, .p] ?_;refine sm rfl rfl ?_;refine su (eff_not rfl rfl) rfl ?_;refine sm rfl rfl ?_;refine sg rfl rfl (fun h => eff_moveg rfl rfl) rfl ?_;refine sg rfl rfl (fun h => eff_lenM (f := cStr) (l := [SL, a0.Kind, a0.Airport, a0.Season, N5]) rfl Tryz.underlying43 (gd (y := undefT) h rfl)) rfl ?_;refine sg rfl rfl (fun h => eff_neq rfl (gd (y := undefT) h rfl) rfl) rfl ?_;refine su (eff_or (v := .bool false) rfl rfl rfl rfl) rfl ?_;refine sm rfl rfl ?_;refine sg rfl rfl (fun h => eff_moveg rfl rfl) rfl ?_;refine sg rfl rfl (fun h => eff_ix (f := cStr) (l := [SL, a0.Kind, a0.Airport, a0.Season, N5]) (a := SL) rfl Tryz.underlying43 ty9 (gd (y := undefT) h rfl) rfl (by decide) rfl) rfl ?_;refine sg rfl rfl (fun h => eff_load rfl ty9 (gd (y := undefT) h rfl)) rfl ?_;refine sg rfl rfl (fun h => eff_sne rfl (gd (y := undefT) h rfl) rfl) rfl ?_;refine su (eff_or (v := .bool false) rfl rfl rfl rfl) rfl ?_;refine sm rfl rfl ?_;refine sg rfl rfl (fun h => eff_moveg rfl rfl) rfl ?_;refine sg rfl rfl (fun h => eff_ix (f := cStr) (l := [SL, a0.Kind, a0.Airport, a0.Season, N5]) (a := a0.Kind) rfl Tryz.underlying43 ty9 (gd (y := undefT) h rfl) rfl (by decide) rfl) rfl ?_;refine sg rfl rfl (fun h => eff_load rfl ty9 (gd (y := undefT) h rfl)) rfl ?_;refine sg rfl rfl (fun h => eff_call rfl K6107 rfl (c6107 a0.Kind) (ag_cons (gd (y := undefT) h rfl) ag_nil)) rfl ?_;refine sg rfl rfl (fun h => eff_not rfl (gd (y := undefT) h rfl)) rfl ?_;refine su (eff_or rfl rfl rfl rfl) rfl ?_;refine st_nil ?_;refine aw_weak (l := [(2, .ptr 2 0), (3, .g (G.bool false)), (6, .g (G.sl 1 (List.map cStr [SL, a0.Kind, a0.Airport, a0.Season, N5]))), (35, .g (G.bool ((((!true) || (decide ((List.length [SL, a0.Kind, a0.Airport, a0.Season, N5] : Int) ≠ 5))) || (!decide (SL = (⟨#[83, 76, 79, 84, 83]⟩)))) || (!(s6107 a0.Kind)))))]) (m := [(2, .box [.g (G.str ByteArray.empty), .g (G.str ByteArray.empty), .g (G.str ByteArray.empty), .g (G.int 0), .g (G.lit (.slice none 0 0))])]) jA ⟨rfl, trivial⟩ rfl ?_;refine aw_cond _ rfl (fun h1 => ?_) (fun h1 => ?_)
 ·replace h1 : ((((!true) || (decide ((List.length [SL, a0.Kind, a0.Airport, a0.Season, N5] : Int) ≠ 5))) || (!decide (SL = (⟨#[83, 76, 79, 84, 83]⟩)))) || (!(s6107 a0.Kind))) = true := h1
  exfalso; simp [hH.sl, hH.h107] at h1
 ·replace h1 : ((((!true) || (decide ((List.length [SL, a0.Kind, a0.Airport, a0.Season, N5] : Int) ≠ 5))) || (!decide (SL = (⟨#[83, 76, 79, 84, 83]⟩)))) || (!(s6107 a0.Kind))) = false := h1;(try simp only [bB] at h1);refine aw_skip ?_;refine aw_seq ?_;refine aw_region [.p, .p, .p, .p, .p, .p, .p, .p, .p] ?_;refine sm rfl rfl ?_;refine su (eff_ix (f := cStr) (l := [SL, a0.Kind, a0.Airport, a0.Season, N5]) (a := N5) rfl Tryz.underlying43 ty9 rfl rfl (by decide) rfl) rfl ?_;refine su (eff_load rfl ty9 rfl) rfl ?_;refine su (eff_call rfl K6088 rfl (c6088_e hH.num) (ag_cons rfl (ag_cons rfl ag_nil))) rfl ?_;refine sm rfl rfl ?_;refine su (eff_extract rfl rfl rfl) rfl ?_;refine su (eff_extract rfl rfl rfl) rfl ?_;refine sa rfl rfl ?_;refine sa rfl rfl ?_;refine st_nil ?_;refine aw_weak (l := [(2, .ptr 2 0), (6, .g (G.sl 1 (List.map cStr [SL, a0.Kind, a0.Airport, a0.Season, N5]))), (7, .g (G.int a0.Day)), (8, .g (G.bool true))]) (m := [(2, .box [.g (G.str ByteArray.empty), .g (G.str ByteArray.empty), .g (G.str ByteArray.empty), .g (G.int 0), .g (G.lit (.slice none 0 0))])]) jA ⟨rfl, trivial⟩ rfl ?_;refine aw_seq ?_;refine aw_draw [.p, .p, .p, .p, .p, .p, .p, .p, .p, .p, .p, .p, .p, .p, .p, .p, .p, .p, .p, .p, .p, .p, .p, .w, .p] (by kernel_rfl) ?_;refine sm rfl rfl ?_;refine su (eff_ix (f := cStr) (l := [SL, a0.Kind, a0.Airport, a0.Season, N5]) (a := a0.Kind) rfl Tryz.underlying43 ty9 rfl rfl (by decide) rfl) rfl ?_;refine su (eff_load rfl ty9 rfl) rfl ?_;refine sm rfl rfl ?_;refine su (eff_ix (f := cStr) (l := [SL, a0.Kind, a0.Airport, a0.Season, N5]) (a := a0.Airport) rfl Tryz.underlying43 ty9 rfl rfl (by decide) rfl) rfl ?_;refine su (eff_load rfl ty9 rfl) rfl ?_;refine sm rfl rfl ?_;refine su (eff_ix (f := cStr) (l := [SL, a0.Kind, a0.Airport, a0.Season, N5]) (a := a0.Season) rfl Tryz.underlying43 ty9 rfl rfl (by decide) rfl) rfl ?_;refine su (eff_load rfl ty9 rfl) rfl ?_;refine sm rfl rfl ?_;refine su (eff_build rfl z6052 rfl pl6052 (pb_cons rfl (pb_cons rfl (pb_cons rfl (pb_cons rfl pb_nil)))) rfl) rfl ?_;refine sm rfl rfl ?_;refine sm rfl rfl ?_;refine sg rfl rfl (fun h => eff_moveg rfl rfl) rfl ?_;refine sg rfl rfl (fun h => eff_ix (f := cStr) (l := [SL, a0.Kind, a0.Airport, a0.Season, N5]) (a := a0.Airport) rfl Tryz.underlying43 ty9 (gd (y := undefT) h rfl) rfl (by decide) rfl) rfl ?_;refine sg rfl rfl (fun h => eff_load rfl ty9 (gd (y := undefT) h rfl)) rfl ?_;refine sg rfl rfl (fun h => eff_moveg rfl rfl) rfl ?_;refine sg rfl rfl (fun h => eff_ix (f := cStr) (l := [SL, a0.Kind, a0.Airport, a0.Season, N5]) (a := a0.Season) rfl Tryz.underlying43 ty9 (gd (y := undefT) h rfl) rfl (by decide) rfl) rfl ?_;refine sg rfl rfl (fun h => eff_load rfl ty9 (gd (y := undefT) h rfl)) rfl ?_;refine sg rfl rfl (fun h => eff_moveg rfl rfl) rfl ?_;refine sg rfl rfl (fun h => eff_call rfl K6108 rfl (c6108 _ _ _ hH.h108) (ag_cons (gd (y := undefT) h rfl) (ag_cons (gd (y := undefT) h rfl) (ag_cons (gd (y := undefT) h rfl) ag_nil)))) rfl ?_;refine sg rfl rfl (fun h => eff_eql rfl (gd (y := undefT) h rfl) rfl) rfl ?_;refine su (eff_and (v := .bool false) rfl rfl rfl rfl) rfl ?_;refine st_wn rfl rfl (eff_store (tv := .g (G.agg [G.str a0.Kind, G.str a0.Airport, G.str a0.Season, G.int a0.Day, G.lit (.slice none 0 0)])) rfl ty6052 rfl rfl rfl rfl rfl) ?_;refine sa rfl rfl ?_;refine st_nil ?_;refine aw_ret ?_;exact resN rfl ⟨rv_cell rfl rfl ty6052 rfl rfl, rv_g rfl, trivial⟩ (by simp)
open Go.Proofs Go.Lib
def partsB (a : S6051) : List ByteArray := hdrB a :: (a.Lines.map lnB ++ [endB a.Lines.length])
theorem partsB_length (a : S6051) : (partsB a).length = a.Lines.length + 2 := by simp [partsB]
theorem catB_data : ∀ l : List ByteArray, (catB l).data.toList = (l.map (·.data.toList)).flatten
 | [] => rfl
 | p :: l => by
  show (p ++ catB l).data.toList = _;rw [ba_app, catB_data l]; rfl
theorem pm_cat (a : S6051) : (⟨(pmL a).toArray⟩ : ByteArray) = catB (partsB a) := by
 apply ba_ext
 rw [catB_data];unfold pmL pmK partsB
 simp [List.map_map, Function.comp_def]
theorem enumB_get : ∀ (ps : List ByteArray) (k i : Nat), (enumB k ps)[i]? = (ps[i]?).map fun p => (((k + i : Nat) : Int), p)
 | [], _, _ => rfl
 | p :: ps, k, 0 => by simp [enumB]
 | p :: ps, k, i + 1 => by
  simp only [enumB, List.getElem?_cons_succ];rw [enumB_get ps (k + 1) i, show k + 1 + i = k + (i + 1) by omega]
abbrev PMG : Type := Bool × Int × ByteArray × ByteArray × ByteArray × Int × List S6034
def PMI (a : S6051) (pre : List (Int × ByteArray)) (g : PMG) : Prop :=
 (pre.length = 0 ∧ g.1 = false ∧ g.2.2.1 = (⟨#[]⟩ : ByteArray) ∧ g.2.2.2.1 = (⟨#[]⟩ : ByteArray) ∧ g.2.2.2.2.1 = (⟨#[]⟩ : ByteArray) ∧ g.2.2.2.2.2.1 = 0 ∧ g.2.2.2.2.2.2 = []) ∨
 (∃ k, pre.length = k + 1 ∧ k ≤ a.Lines.length ∧ g.1 = false ∧ g.2.2.1 = a.Kind ∧ g.2.2.2.1 = a.Airport ∧ g.2.2.2.2.1 = a.Season ∧ g.2.2.2.2.2.1 = a.Day ∧ g.2.2.2.2.2.2 = a.Lines.take k) ∨
 (pre.length = a.Lines.length + 2 ∧ g.1 = true ∧ g.2.2.1 = a.Kind ∧ g.2.2.2.1 = a.Airport ∧ g.2.2.2.2.1 = a.Season ∧ g.2.2.2.2.2.1 = a.Day ∧ g.2.2.2.2.2.2 = a.Lines)
theorem pmi_zero (a : S6051) : PMI a [] (false, (0 : Int), (⟨#[]⟩ : ByteArray), (⟨#[]⟩ : ByteArray), (⟨#[]⟩ : ByteArray), (0 : Int), ([] : List S6034)) := .inl ⟨rfl, rfl, rfl, rfl, rfl, rfl, rfl⟩
theorem pmi_head {a : S6051} {pre : List (Int × ByteArray)} {x : Int × ByteArray} (h : pre.length = 0) (iv : Int) : PMI a (pre ++ [x]) (false, iv, a.Kind, a.Airport, a.Season, a.Day, ([] : List S6034)) := .inr (.inl ⟨0, by simp [h], by omega, rfl, rfl, rfl, rfl, rfl, by simp⟩)
theorem pmi_line {a : S6051} {pre : List (Int × ByteArray)} {x : Int × ByteArray} {k : Nat} {y : S6034} {ls : List S6034} (h : pre.length = k + 1) (hy : a.Lines[k]? = some y) (hls : ls = a.Lines.take k) (iv : Int) : PMI a (pre ++ [x]) (false, iv, a.Kind, a.Airport, a.Season, a.Day, ls ++ [y]) :=
 .inr (.inl ⟨k + 1, by simp [h], (List.getElem?_eq_some_iff.1 hy).1, rfl, rfl, rfl, rfl, rfl, by show ls ++ [y] = _; rw [hls, List.take_add_one, hy]; rfl⟩)
theorem pmi_end {a : S6051} {pre : List (Int × ByteArray)} {x : Int × ByteArray} {ls : List S6034} (h : pre.length = a.Lines.length + 1) (hls : ls = a.Lines) (iv : Int) : PMI a (pre ++ [x]) (true, iv, a.Kind, a.Airport, a.Season, a.Day, ls) :=
 .inr (.inr ⟨by simp [h], rfl, rfl, rfl, rfl, rfl, hls⟩)
theorem pmi_done {a : S6051} {g : PMG} (h : PMI a (enumB 0 (partsB a)) g) : g.1 = true ∧ g.2.2.1 = a.Kind ∧ g.2.2.2.1 = a.Airport ∧ g.2.2.2.2.1 = a.Season ∧ g.2.2.2.2.2.1 = a.Day ∧ g.2.2.2.2.2.2 = a.Lines := by
 have hl : (enumB 0 (partsB a)).length = a.Lines.length + 2 := by rw [enumB_length, partsB_length]
 rcases h with ⟨h, _⟩ | ⟨k, h, hk, hg⟩ | ⟨_, h⟩
 ·omega
 ·omega
 ·exact h
structure LnR (y : S6034) (P C w0 : ByteArray) (Ws : List ByteArray) : Prop where
 cut : P = C ++ (⟨#[10]⟩ : ByteArray)
 tsz : P.size ≤ 1000000
 csz : C.size < 4294967281
 spl : s6030 C sepB = w0 :: Ws
 ne : w0 ≠ (⟨#[69, 78, 68]⟩ : ByteArray)
 lp : LineP y
 tx : s6029 y = C
structure EndR (n : Nat) (P C EN N2 : ByteArray) : Prop where
 cut : P = C ++ (⟨#[10]⟩ : ByteArray)
 tsz : P.size ≤ 1000000
 csz : C.size < 4294967281
 spl : s6030 C sepB = [EN, N2]
 en : EN = (⟨#[69, 78, 68]⟩ : ByteArray)
 num : s6088 N2 2 = ((n : Int), true)
theorem ln_ok {a : S6051} (h : MOk a) {k : Nat} {y : S6034} (hy : a.Lines[k]? = some y) : ∃ C w0 Ws, LnR y (lnB y) C w0 Ws := by
 have hlp := h.lp (List.mem_of_getElem? hy);have hsz := ln_size h hy;have e : (⟨#[10]⟩ : ByteArray).size = 1 := rfl;refine ⟨s6029 y, y.Action, (lws y).tail, rfl, by unfold lnB; rw [ByteArray.size_append]; omega, by omega, by rw [hlp.spl]; rfl, ?_, hlp, rfl⟩
 rcases h.act y (List.mem_of_getElem? hy) with e | e <;> rw [e] <;> decide
theorem end_ok {n : Nat} (h : n ≤ 40) : ∃ C EN N2, EndR n (endB n) C EN N2 := by
 have hsz := end_size h
 have hb : ∀ w ∈ [(⟨#[69, 78, 68]⟩ : ByteArray), s6084 (n : Int) 2], (32 : UInt8) ∉ w.data.toList := by
  intro w hw;simp only [List.mem_cons, List.not_mem_nil, or_false] at hw
  rcases hw with rfl | rfl
  ·decide
  ·exact wide_no32 (by omega) (by show (n : Int) < 100; omega) (by decide) (by decide)
 have hw := words_back _ (by simp) hb
 have hcut : endB n = s6048 [(⟨#[69, 78, 68]⟩ : ByteArray), s6084 (n : Int) 2] sepB ++ (⟨#[10]⟩ : ByteArray) := by
  apply ba_ext
  unfold endB s6048
  simp [wB, join_cons2, join_one]
 refine ⟨_, _, _, hcut, by omega, ?_, hw, rfl, num_wide (w := 2) (by omega) (by show (n : Int) < 100; omega) (by decide) (by decide)⟩;have := congrArg ByteArray.size hcut;rw [ByteArray.size_append] at this
 omega
theorem pm_cases {a : S6051} (hM : MOk a) {pre post : List (Int × ByteArray)} {x : Int × ByteArray} {g : PMG} (hxs : enumB 0 (partsB a) = pre ++ x :: post) (hI : PMI a pre g) :
  (∃ T C SL N5, HdrR a T C SL N5 ∧ pre.length = 0 ∧ x = ((0 : Int), T) ∧ g.1 = false ∧ g.2.2.1 = (⟨#[]⟩ : ByteArray) ∧ g.2.2.2.1 = (⟨#[]⟩ : ByteArray) ∧ g.2.2.2.2.1 = (⟨#[]⟩ : ByteArray) ∧ g.2.2.2.2.2.1 = 0 ∧ g.2.2.2.2.2.2 = []) ∨
  (∃ k y P C w0 Ws, LnR y P C w0 Ws ∧ pre.length = k + 1 ∧ a.Lines[k]? = some y ∧ g.2.2.2.2.2.2.length < 60 ∧ ∃ j : Int, j ≠ 0 ∧ I64 (j + 1) ∧ x = (j, P) ∧ g.1 = false ∧ g.2.2.1 = a.Kind ∧ g.2.2.2.1 = a.Airport ∧ g.2.2.2.2.1 = a.Season ∧ g.2.2.2.2.2.1 = a.Day ∧ g.2.2.2.2.2.2 = a.Lines.take k) ∨
  (∃ P C EN N2, EndR a.Lines.length P C EN N2 ∧ pre.length = a.Lines.length + 1 ∧ ∃ j : Int, j ≠ 0 ∧ I64 (j + 1) ∧ x = (j, P) ∧ g.1 = false ∧ g.2.2.1 = a.Kind ∧ g.2.2.2.1 = a.Airport ∧ g.2.2.2.2.1 = a.Season ∧ g.2.2.2.2.2.1 = a.Day ∧ g.2.2.2.2.2.2 = a.Lines) := by
 have hx : (enumB 0 (partsB a))[pre.length]? = some x := by rw [hxs]; simp
 rw [enumB_get, Nat.zero_add] at hx;have hl := hM.len
 rcases hI with ⟨h0, hg⟩ | ⟨k, hk, hkn, hg⟩ | ⟨hk, hg⟩
 ·obtain ⟨C, SL, N5, hH⟩ := hdr_ok hM;rw [h0] at hx;exact .inl ⟨hdrB a, C, SL, N5, hH, h0, by simpa [partsB] using hx.symm, hg⟩
 ·rw [hk] at hx;have hx' : ((a.Lines.map lnB ++ [endB a.Lines.length])[k]?).map (fun p => (((k + 1 : Nat) : Int), p)) = some x := hx;obtain ⟨g1, g2, g3, g4, g5, g6⟩ := hg
  by_cases hkl : k < a.Lines.length
  ·have hy : a.Lines[k]? = some a.Lines[k] := List.getElem?_eq_getElem hkl;obtain ⟨C, w0, Ws, hL⟩ := ln_ok hM hy;rw [List.getElem?_append_left (by simpa using hkl), List.getElem?_map, hy] at hx';exact .inr (.inl ⟨k, _, _, C, w0, Ws, hL, hk, hy, by rw [g6, List.length_take]; omega, ((k + 1 : Nat) : Int), by omega, by unfold I64; omega, by simpa using hx'.symm, g1, g2, g3, g4, g5, g6⟩)
  ·have hke : k = a.Lines.length := by omega
   subst hke;obtain ⟨C, EN, N2, hE⟩ := end_ok hl;rw [List.getElem?_append_right (by simp), List.length_map, Nat.sub_self] at hx';exact .inr (.inr ⟨_, C, EN, N2, hE, hk, ((a.Lines.length + 1 : Nat) : Int), by omega, by unfold I64; omega, by simpa using hx'.symm, g1, g2, g3, g4, g5, by rw [g6, List.take_length]⟩)
 ·have := congrArg List.length hxs;rw [enumB_length, partsB_length, List.length_append, List.length_cons] at this
  omega
theorem mem_join : ∀ (ws : List (List UInt8)) (c : UInt8), c ∈ join ws [32] → c = 32 ∨ ∃ w ∈ ws, c ∈ w
 | [], c, h => by simp [join] at h
 | [w], c, h => by rw [join_one] at h; exact .inr ⟨w, by simp, h⟩
 | w :: v :: r, c, h => by
  rw [join_cons2] at h
  rcases List.mem_append.1 h with h | h
  ·exact .inr ⟨w, by simp, h⟩
  ·rcases List.mem_cons.1 h with h | h
   ·exact .inl h
   ·rcases mem_join (v :: r) c h with h | ⟨u, h1, h2⟩
    ·exact .inl h
    ·exact .inr ⟨u, List.mem_cons_of_mem _ h1, h2⟩
theorem ln_words {ws : List ByteArray} (h : ∀ w ∈ ws, ∀ c ∈ w.data.toList, 45 ≤ c.toNat) : IsLn (s6048 ws sepB ++ (⟨#[10]⟩ : ByteArray)) :=
 ⟨(s6048 ws sepB).data.toList, by rw [ba_app], fun hc => by
  unfold s6048 wB at hc
  rcases mem_join _ _ hc with h1 | ⟨w, h1, h2⟩
  ·exact absurd h1 (by decide)
  ·obtain ⟨v, h3, rfl⟩ := List.mem_map.1 h1
   exact absurd (h v h3 _ h2) (by decide)⟩
theorem parts_ln {a : S6051} (hM : MOk a) : ∀ p ∈ partsB a, IsLn p := by
 intro p hp;have hl := hM.len;have hs0 := hM.d0;have hs1 := hM.d1;unfold partsB at hp
 rcases List.mem_cons.1 hp with rfl | hp
 ·have hcut : hdrB a = s6048 [(⟨#[83, 76, 79, 84, 83]⟩ : ByteArray), a.Kind, a.Airport, a.Season, s6084 a.Day 5] sepB ++ (⟨#[10]⟩ : ByteArray) := by
   apply ba_ext
   unfold hdrB s6048
   simp [wB, join_cons2, join_one]
  rw [hcut];refine ln_words fun w hw => ?_;simp only [List.mem_cons, List.not_mem_nil, or_false] at hw
  rcases hw with rfl | rfl | rfl | rfl | rfl
  ·decide
  ·rw [hM.kind]; decide
  ·rw [hM.air]; decide
  ·rw [hM.sea]; decide
  ·exact (word_num hs0 (by show a.Day < 100000; omega) (by decide) (by decide)).1
 ·rcases List.mem_append.1 hp with hp | hp
  ·obtain ⟨y, hy, rfl⟩ := List.mem_map.1 hp;have : lnB y = s6048 (lws y) sepB ++ (⟨#[10]⟩ : ByteArray) := rfl;rw [this];exact ln_words fun w hw => (lw_ok (by rcases hM.act y hy with e | e <;> rw [e] <;> first | exact act_N | exact act_D) (hM.rq y hy) w hw).1
  ·rw [List.mem_singleton.1 hp]
   have hcut : endB a.Lines.length = s6048 [(⟨#[69, 78, 68]⟩ : ByteArray), s6084 (a.Lines.length : Int) 2] sepB ++ (⟨#[10]⟩ : ByteArray) := by
    apply ba_ext
    unfold endB s6048
    simp [wB, join_cons2, join_one]
   rw [hcut];refine ln_words fun w hw => ?_;simp only [List.mem_cons, List.not_mem_nil, or_false] at hw
   rcases hw with rfl | rfl
   ·decide
   ·exact (word_num (by omega) (by show (a.Lines.length : Int) < 100; omega) (by decide) (by decide)).1
theorem parts_sz {a : S6051} (hM : MOk a) : (catB (partsB a)).size ≤ 1000000 ∧ (catB (partsB a)).size ≤ 16384 ∧ (partsB a).length ≤ 1000000 := by
 have hl := hM.len;have h1 := pmK_len hM a.Lines.length
 have h2 : (catB (partsB a)).size = (pmL a).length := by rw [← pm_cat]; simp [ByteArray.size]
 have h3 : (pmL a).length = (pmK a a.Lines.length).length + 7 := by
  unfold pmL;rw [List.length_append, ← ba_size, end_size hl]
 rw [partsB_length]
 omega
theorem c4085_0 {g : GL} {b : Bool} {e : Int} (h : b = false) : Con (EG g) 45 [G.bool b, G.int e] (G.int 0) := by
 subst h;exact c4085 false e
theorem c4082_00 {g : GL} : Con (EG g) 44 [G.sl 1 (List.map cInt [0, 0])] (G.int 0) := c4082 [0, 0]
theorem lines89 {a : S6051} (h : MOk a) : s6089 a.Kind a.Lines = some (0, 0) := by
 unfold s6089;rw [h.kind]; exact lines_ok h a.Lines 0 rfl
theorem LnR.neq {y : S6034} {P C w0 : ByteArray} {Ws : List ByteArray} (h : LnR y P C w0 Ws) {z : ByteArray} (hz : ixO (w0 :: Ws) 0 = some z) : ¬ (!decide (z = (⟨#[69, 78, 68]⟩ : ByteArray))) = false := by
 have e : z = w0 := by
  have : ixO (w0 :: Ws) 0 = some w0 := rfl;rw [this] at hz;exact (Option.some.inj hz).symm
 subst e;rw [decide_eq_false h.ne];exact Bool.noConfusion
end Go.Sim
namespace Go.Proofs
open Go.RowKit Go.Shelf
set_option maxRecDepth 100000 in
theorem texts_new (s : ByteArray) (w : World) : Calls Tryz.prog 85 #[.string s] w fun e w' => e = .returned (.func (.func 110) #[] #[.pointer (some ⟨w.heap.size, 0, none⟩)]) ∧ w' = w.alloc (.cells #[.string s] 9) := by
 go_enter Tryz.func85, Tryz.ntmps85
 go_wp2
 go_ret
 exact ⟨rfl, rfl⟩
end Go.Proofs
namespace Go.Sim
open Go.Proofs Go.RowKit Go.Shelf
section
variable {E : Env} {w0 : World} {M0 : Nat → Prop}
theorem eff_texts {o : Oper} {mem : Mem} {ev : Operand → TV} {x : Operand} {ts : Array TypeId} {s : ByteArray} (c : Nat) (ho : o.op = .call ⟨.value (.func 85), #[x], ts⟩) (hev : ev (.func 85) = .g (.lit (.func (.func 85) #[] #[]))) (hP : E.P = Tryz.prog) (hx : ev x = .g (.str s)) (hf : lookO mem c = none) :
  EffW E o mem ev (.fnp 110 false c) ((c, .tbox 9 [.g (.str s)]) :: mem) none := by
 intro w0 M0 ρ w e hm he;have hx1 := he x (by rw [ho]; simp [Op.operands, Call.operands]);rw [hx] at hx1;have hx2 : e x = .string s := hx1
 have hef : e (.func 85) = .func (.func 85) #[] #[] := by
  have := he (.func 85) (by rw [ho]; simp [Op.operands, Call.operands]);rw [hev] at this;exact this
 have hrun : (execOp e o).run E.P w = .ok (.enter 85 #[.string s]) w := by
  simp [execOp, ho, resolve, hef, hx2, Deferred.ofValue, invoke, hP, run_callFunc Tryz.func85 (by kernel_rfl) (by kernel_rfl)]
 rw [hrun];show Calls E.P 85 _ w _;rw [hP];refine (texts_new s w).mono ?_;rintro e' w' ⟨rfl, rfl⟩;have hr := rho_none hm hf;obtain ⟨k1, k2⟩ := mrel_upd (id := c) (x := some ⟨w.heap.size, 0, 0⟩) (blk' := .tbox 9 [.g (.str s)]) none hm (diff_alloc _ c w (.cells #[.string s] 9)) (fun o ho => by cases ho; exact ⟨.inl (Nat.le_refl _), by simp⟩) (.inr ⟨rfl, .inl hr⟩) (fun _ b _ _ => noref_none b) (.inl rfl)
  ⟨⟨w.heap.size, 0, 0⟩, [.string s], rhoSet_same _ _ _, rfl, heap_alloc_new w (.cells #[.string s] 9), ⟨⟨rfl, rfl⟩, trivial⟩⟩
 exact ⟨_, rfl, _, k1, k2, ⟨w.heap.size, 0, 0⟩, rhoSet_same _ _ _, rfl⟩
end
section
variable {E : Env} {w0 : World} {M0 : Nat → Prop}
theorem arel_renil {a : Act} {w : World} {s : ASt} (b p id k : Nat) (e : TypeId) {cs : List TV} (hb : lookO s.mem b = some (.box cs)) (hc : cs[p]? = some (.g (.lit (.slice none 0 0)))) (hne : Nat.beq id b = false)
  (hrefs : ∀ i blk, lookO s.mem i = some blk → i ≠ id → blk.noref (some id) = true) (hbw : lookO E.bow id = none)
  (ha : ARel E w0 M0 s a w) : ARel E w0 M0 ⟨s.n, killT (some id) s.tmps, (b, .box (cs.set p (.osl id k 0 0))) :: (id, .arr e k []) :: s.mem⟩ a w := by
 obtain ⟨ρ, hm, hmk, ht⟩ := ha.ex;obtain ⟨m1, m2⟩ := mrel_upd (id := id) (x := none) (blk' := .arr e k []) (some id) hm ⟨rfl, rfl, rfl, Nat.le_refl _, fun _ _ _ => rfl⟩ (fun o ho => by cases ho) (.inl rfl) hrefs (.inr hbw) (.inl ⟨rhoSet_same _ _ _, rfl⟩)
 have hb' : lookO ((id, Blk.arr e k []) :: s.mem) b = some (.box cs) := by simp only [lookO, hne]; exact hb
 obtain ⟨ow, ty, vs, g1, g2, g3, g4⟩ := m1.blk b _ hb';obtain ⟨v, h4, h5, _⟩ := TFits.get p g4 hc;have hv : v = .slice none 0 0 := h5;subst hv;obtain ⟨n1, n2⟩ := mrel_upd (id := b) (x := some ow) (blk' := .box (cs.set p (.osl id k 0 0))) none m1 ⟨rfl, rfl, rfl, Nat.le_refl _, fun _ _ _ => rfl⟩ (fun o ho => by cases ho; exact ⟨.inr ⟨ow, g1, rfl⟩, (m1.fresh b ow g1).2⟩) (.inr ⟨rfl, .inr g1⟩) (fun _ b _ _ => noref_none b) (.inl rfl)
  ⟨ow, ty, vs, rhoSet_same _ _ _, g2, g3, by rw [rho_same g1]; exact TFits.give (show TRel w (owned M0 (rhoSet ρ id none)) (rhoSet ρ id none) (.osl id k 0 0) (.slice none 0 0) from Or.inl ⟨rhoSet_same _ _ _, rfl, rfl, rfl⟩) p g4 h4⟩
 refine ⟨ha.defers, ha.size, _, n1, ⟨hmk.1, fun d hd => by
  obtain ⟨D, q1, q2, q3⟩ := hmk.2 d hd
  exact ⟨D, q1, q2, n2 (.g (G.mark D)) undef rfl (m2 (.g (G.mark D)) undef rfl q3)⟩⟩, fun i => ?_⟩
 show TRel _ _ _ (killT (some id) s.tmps i) _;rw [lookT_killT]
 cases hn : noref (some id) (s.tmps i) with
 | true => exact n2 _ _ (by cases s.tmps i <;> rfl) (m2 _ _ hn (ht i))
 | false => trivial
def asay (E : Env) (w0 : World) (M0 : Nat → Prop) (Q : Exit → ASt → Prop) : Exit → ASt → Prop
 | .normal, s => ∀ a w, ARel E w0 M0 s a w → ∃ s', ARel E w0 M0 s' a w ∧ Q .normal s'
 | e, s => Q e s
theorem aw_then {c : Code} {Q : Exit → ASt → Prop} {s : ASt} (h : AWp E w0 M0 c (asay E w0 M0 Q) s) : AWp E w0 M0 c Q s := fun a w ha =>
 wpIn_mono (h a w ha) fun e a' w' ⟨s', h1, h2⟩ => by
  cases e with
  | normal => exact h2 a' w' h1
  | _ => exact ⟨s', h1, h2⟩
end
end Go.Sim
set_option maxRecDepth 10000
namespace Go.Sim
open Go.Proofs
theorem c6039 {g : GL} [GlR g] (a0 : S6051) (T : ByteArray) (hM : MOk a0) (hT : T = catB (partsB a0)) : Con (EG g) 39 [G.str T] (G.tup [G.agg [G.str a0.Kind, G.str a0.Airport, G.str a0.Season, G.int a0.Day, G.sl 14 (List.map S6034.c a0.Lines)], G.int 0, G.int 0]) := by
 refine con_of_awm Tryz.func39 rfl rfl (inert_tup (inert_cons (inert_agg (inert_cons (inert_lit _) (inert_cons (inert_lit _) (inert_cons (inert_lit _) (inert_cons (inert_lit _) (inert_cons (inert_slF fun x => (inert_cons (inert_lit _) (inert_cons (inert_lit _) (inert_cons (inert_lit _) (inert_cons (inert_lit _) (inert_cons (inert_lit _) (inert_cons (inert_lit _) (inert_cons (inert_lit _) (inert_cons (inert_lit _) (inert_cons (inert_lit _) (inert_cons (inert_lit _) (inert_cons (inert_lit _) (inert_cons (inert_lit _) (inert_cons (inert_lit _) (inert_cons (inert_lit _) inert_nil))))))))))))))) inert_nil)))))) (inert_cons (inert_lit _) (inert_cons (inert_lit _) inert_nil)))) fun w0 M0 => ?_;refine aw_seq ?_;refine aw_region [.w, .w, .w] ?_;refine sw (eff_alloc 2 rfl z6052 rfl rfl) rfl ?_;refine sw (eff_alloc 3 rfl z3 rfl rfl) rfl ?_;refine sw (eff_alloc 4 rfl z37 rfl rfl) rfl ?_;refine st_nil ?_;refine aw_weak (l := [(0, .g (G.str T)), (2, .ptr 2 0), (3, .ptr 3 0), (4, .ptr 4 0)]) (m := [(2, .box [.g (G.str ByteArray.empty), .g (G.str ByteArray.empty), .g (G.str ByteArray.empty), .g (G.int 0), .g (G.lit (.slice none 0 0))]), (3, .box [.g (G.int 0)]), (4, .box [.g (G.int 0)])]) jA ⟨rfl, rfl, rfl, trivial⟩ rfl ?_;refine aw_seq ?_;refine aw_seq ?_;refine aw_region [.p, .p, .p] ?_;refine sm rfl rfl ?_;refine su (eff_lenS rfl Tryz.underlying9 rfl) rfl ?_;refine su (eff_gtr rfl rfl rfl) rfl ?_;refine st_nil ?_;refine aw_weak (l := [(0, .g (G.str T)), (2, .ptr 2 0), (3, .ptr 3 0), (4, .ptr 4 0), (25, .g (G.bool (decide (16384 < (ByteArray.size T : Int)))))]) (m := [(2, .box [.g (G.str ByteArray.empty), .g (G.str ByteArray.empty), .g (G.str ByteArray.empty), .g (G.int 0), .g (G.lit (.slice none 0 0))]), (3, .box [.g (G.int 0)]), (4, .box [.g (G.int 0)])]) jA ⟨rfl, rfl, rfl, trivial⟩ rfl ?_;refine aw_cond _ rfl (fun h1 => ?_) (fun h1 => ?_)
 ·replace h1 : (decide (16384 < (ByteArray.size T : Int))) = true := h1
  exfalso; exact absurd (of_decide_eq_true h1) (by have := parts_sz hM; rw [← hT] at this; omega)
 ·replace h1 : (decide (16384 < (ByteArray.size T : Int))) = false := h1;(try simp only [bB] at h1);refine aw_skip ?_;refine aw_seq ?_;refine aw_region [.w] ?_;refine sw (eff_alloc 5 rfl z6052 rfl rfl) rfl ?_;refine st_nil ?_;refine aw_weak (l := [(0, .g (G.str T)), (2, .ptr 2 0), (3, .ptr 3 0), (4, .ptr 4 0), (5, .ptr 5 0)]) (m := [(2, .box [.g (G.str ByteArray.empty), .g (G.str ByteArray.empty), .g (G.str ByteArray.empty), .g (G.int 0), .g (G.lit (.slice none 0 0))]), (3, .box [.g (G.int 0)]), (4, .box [.g (G.int 0)]), (5, .box [.g (G.str ByteArray.empty), .g (G.str ByteArray.empty), .g (G.str ByteArray.empty), .g (G.int 0), .g (G.lit (.slice none 0 0))])]) jA jA rfl ?_;refine aw_seq ?_;refine aw_region [.w, .w, .w, .w] ?_;refine sw (eff_alloc 6 rfl z3 rfl rfl) rfl ?_;refine sw (eff_alloc 7 rfl z4 rfl rfl) rfl ?_;refine st_wn rfl rfl (eff_store (tv := .g (G.int 0)) rfl ty3 rfl rfl rfl rfl rfl) ?_;refine st_wn rfl rfl (eff_store (tv := .g (G.bool false)) rfl ty4 rfl rfl rfl rfl rfl) ?_;refine st_nil ?_;refine aw_weak (l := [(0, .g (G.str T)), (2, .ptr 2 0), (3, .ptr 3 0), (4, .ptr 4 0), (5, .ptr 5 0), (6, .ptr 6 0), (7, .ptr 7 0)]) (m := [(2, .box [.g (G.str ByteArray.empty), .g (G.str ByteArray.empty), .g (G.str ByteArray.empty), .g (G.int 0), .g (G.lit (.slice none 0 0))]), (3, .box [.g (G.int 0)]), (4, .box [.g (G.int 0)]), (5, .box [.g (G.str ByteArray.empty), .g (G.str ByteArray.empty), .g (G.str ByteArray.empty), .g (G.int 0), .g (G.lit (.slice none 0 0))]), (6, .box [.g (G.int 0)]), (7, .box [.g (G.bool false)])]) jA jA rfl ?_;refine aw_seq ?_;refine aw_seq ?_;refine aw_nilcell 5 4 2054 14 35 rfl rfl rfl rfl ?_;refine aw_region [.p, .w] ?_;refine sm rfl rfl ?_;refine sw (eff_texts 28 rfl rfl rfl rfl rfl) rfl ?_;refine st_nil ?_;refine aw_weak (l := [(2, .ptr 2 0), (3, .ptr 3 0), (4, .ptr 4 0), (5, .ptr 5 0), (6, .ptr 6 0), (7, .ptr 7 0), (28, .fnp 110 false 28)]) (m := [(2, .box [.g (G.str ByteArray.empty), .g (G.str ByteArray.empty), .g (G.str ByteArray.empty), .g (G.int 0), .g (G.lit (.slice none 0 0))]), (3, .box [.g (G.int 0)]), (4, .box [.g (G.int 0)]), (5, .box [.g (G.str ByteArray.empty), .g (G.str ByteArray.empty), .g (G.str ByteArray.empty), .g (G.int 0), .osl 2054 14 0 (0)]), (6, .box [.g (G.int 0)]), (7, .box [.g (G.bool false)]), (28, .tbox 9 [.g (G.str T)]), (2054, .arr 35 14 (List.map S6034.c ([] : List S6034)))]) jA jA rfl ?_;refine aw_block ?_;refine aw_rangeCZ (α := Int × ByteArray) (γ := Bool × Int × ByteArray × ByteArray × ByteArray × Int × (List S6034)) (enc := encP) (l := [(2, .ptr 2 0), (3, .ptr 3 0), (4, .ptr 4 0), (5, .ptr 5 0), (6, .ptr 6 0), (7, .ptr 7 0)]) 2054 5 (enumB 0 (partsB a0)) (fun g => [(2, .box [.g (G.str ByteArray.empty), .g (G.str ByteArray.empty), .g (G.str ByteArray.empty), .g (G.int 0), .g (G.lit (.slice none 0 0))]), (3, .box [.g (G.int 0)]), (4, .box [.g (G.int 0)]), (5, .box [.g (G.str g.2.2.1), .g (G.str g.2.2.2.1), .g (G.str g.2.2.2.2.1), .g (G.int g.2.2.2.2.2.1), .osl 2054 14 0 (List.length g.2.2.2.2.2.2)]), (6, .box [.g (G.int g.2.1)]), (7, .box [.g (G.bool g.1)]), (2054, .arr 35 14 (List.map S6034.c g.2.2.2.2.2.2))]) (PMI a0) (false, 0, ByteArray.empty, ByteArray.empty, ByteArray.empty, 0, ([] : List S6034)) (fun g y8 => (upd 9 (.g (G.str y8.2)) (upd 8 (.g (G.int y8.1)) (upd 30 (.g ((fun z_ : Int × ByteArray => G.str z_.2) y8)) (upd 29 (.g ((fun z_ : Int × ByteArray => G.int z_.1) y8)) (lookT [(2, .ptr 2 0), (3, .ptr 3 0), (4, .ptr 4 0), (5, .ptr 5 0), (6, .ptr 6 0), (7, .ptr 7 0)])))), [(2, .box [.g (G.str ByteArray.empty), .g (G.str ByteArray.empty), .g (G.str ByteArray.empty), .g (G.int 0), .g (G.lit (.slice none 0 0))]), (3, .box [.g (G.int 0)]), (4, .box [.g (G.int 0)]), (5, .box [.g (G.str g.2.2.1), .g (G.str g.2.2.2.1), .g (G.str g.2.2.2.2.1), .g (G.int g.2.2.2.2.2.1), .osl 2054 14 0 (List.length g.2.2.2.2.2.2)]), (6, .box [.g (G.int g.2.1)]), (7, .box [.g (G.bool g.1)]), (2054, .arr 35 14 (List.map S6034.c g.2.2.2.2.2.2))])) rfl jA jA rfl rfl rfl rfl K6110 (by rw [hT]; exact texts1_seq _ (parts_ln hM) (parts_sz hM).1 (parts_sz hM).2.2) (fun y8 => (fun z_ : Int × ByteArray => G.int z_.1) y8) (fun y8 => (fun z_ : Int × ByteArray => G.str z_.2) y8) (fun _ _ _ => rfl) (fun _ _ _ => rfl) (pmi_zero a0) rfl rfl (fun _ => rfl) (fun _ => rfl) rfl (fun _ => rfl) (fun _ _ => rfl) rfl ?_ (fun _ _ => rfl) ?_ ?_
  ·rintro y8 ⟨x1, x2, x3, x4, x5, x6, x7⟩ lp_ w1_ M1_ x1_;refine aw_seq ?_;refine aw_region [.p] ?_;refine sa rfl rfl ?_;refine st_nil ?_;refine aw_region [.p] ?_;refine sa rfl rfl ?_;refine st_nil ?_;exact ⟨rfl, rfl⟩
  ·rintro pre_ y8 post_ ⟨x1, x2, x3, x4, x5, x6, x7⟩ hxs_ hI_ lp_ w1_ M1_ x1_
   rcases pm_cases hM hxs_ hI_ with ⟨T, C, SL, N5, hH, hp_, hx_, hg_⟩ | ⟨kq, y, P, C, w0, Ws, hL, hp_, hy_, hl60, j, hj0, hj1, hx_, hg_⟩ | ⟨P, C, EN, N2, hL, hp_, j, hj0, hj1, hx_, hg_⟩
   ·cases hx_
    dsimp only at hg_;obtain ⟨rfl, rfl, rfl, rfl, rfl, rfl⟩ := hg_;refine aw_then ?_;refine aw_block ?_;refine aw_seq ?_;refine aw_region [.p, .p, .w] ?_;refine sm rfl rfl ?_;refine su (eff_add rfl rfl rfl (by first | exact hj1 | (unfold I64; omega))) rfl ?_;refine st_wn rfl rfl (eff_store (tv := .g (G.int (0 + 1))) rfl ty3 rfl rfl rfl rfl rfl) ?_;refine st_nil ?_;refine aw_weak (l := [(2, .ptr 2 0), (3, .ptr 3 0), (4, .ptr 4 0), (5, .ptr 5 0), (6, .ptr 6 0), (7, .ptr 7 0), (8, .g (G.int 0)), (9, .g (G.str T))]) (m := [(2, .box [.g (G.str ByteArray.empty), .g (G.str ByteArray.empty), .g (G.str ByteArray.empty), .g (G.int 0), .g (G.lit (.slice none 0 0))]), (3, .box [.g (G.int 0)]), (4, .box [.g (G.int 0)]), (5, .box [.g (G.str (⟨#[]⟩)), .g (G.str (⟨#[]⟩)), .g (G.str (⟨#[]⟩)), .g (G.int 0), .osl 2054 14 0 (0)]), (6, .box [.g (G.int (0 + 1))]), (7, .box [.g (G.bool false)]), (2054, .arr 35 14 (List.map S6034.c ([] : List S6034)))]) jA jA rfl ?_;refine aw_seq ?_;refine aw_region [.p, .p, .p, .p, .p, .p, .p] ?_;refine sm rfl rfl ?_;refine su (eff_call rfl K6086 rfl (c6086_nl hH.cut hH.tsz) (ag_cons rfl (ag_cons rfl ag_nil))) rfl ?_;refine sm rfl rfl ?_;refine su (eff_extract rfl rfl rfl) rfl ?_;refine su (eff_extract rfl rfl rfl) rfl ?_;refine sa rfl rfl ?_;refine sa rfl rfl ?_;refine st_nil ?_;refine aw_weak (l := [(2, .ptr 2 0), (3, .ptr 3 0), (4, .ptr 4 0), (5, .ptr 5 0), (6, .ptr 6 0), (7, .ptr 7 0), (8, .g (G.int 0)), (9, .g (G.str T)), (10, .g (G.str C)), (11, .g (G.bool true))]) (m := [(2, .box [.g (G.str ByteArray.empty), .g (G.str ByteArray.empty), .g (G.str ByteArray.empty), .g (G.int 0), .g (G.lit (.slice none 0 0))]), (3, .box [.g (G.int 0)]), (4, .box [.g (G.int 0)]), (5, .box [.g (G.str (⟨#[]⟩)), .g (G.str (⟨#[]⟩)), .g (G.str (⟨#[]⟩)), .g (G.int 0), .osl 2054 14 0 (0)]), (6, .box [.g (G.int (0 + 1))]), (7, .box [.g (G.bool false)]), (2054, .arr 35 14 (List.map S6034.c ([] : List S6034)))]) jA jA rfl ?_;refine aw_seq ?_;refine aw_region [.p, .p, .p] ?_;refine sm rfl rfl ?_;refine su (eff_call rfl K6030 rfl (c6030_e (g := g) hH.csz hH.spl) (ag_cons rfl (ag_cons rfl ag_nil))) rfl ?_;refine sa rfl rfl ?_;refine st_nil ?_;refine aw_weak (l := [(2, .ptr 2 0), (3, .ptr 3 0), (4, .ptr 4 0), (5, .ptr 5 0), (6, .ptr 6 0), (7, .ptr 7 0), (8, .g (G.int 0)), (9, .g (G.str T)), (10, .g (G.str C)), (11, .g (G.bool true)), (12, .g (G.sl 1 (List.map cStr [SL, a0.Kind, a0.Airport, a0.Season, N5])))]) (m := [(2, .box [.g (G.str ByteArray.empty), .g (G.str ByteArray.empty), .g (G.str ByteArray.empty), .g (G.int 0), .g (G.lit (.slice none 0 0))]), (3, .box [.g (G.int 0)]), (4, .box [.g (G.int 0)]), (5, .box [.g (G.str (⟨#[]⟩)), .g (G.str (⟨#[]⟩)), .g (G.str (⟨#[]⟩)), .g (G.int 0), .osl 2054 14 0 (0)]), (6, .box [.g (G.int (0 + 1))]), (7, .box [.g (G.bool false)]), (2054, .arr 35 14 (List.map S6034.c ([] : List S6034)))]) jA jA rfl ?_;refine aw_block ?_;refine aw_seq ?_;refine aw_region [.p, .p, .p] ?_;refine sm rfl rfl ?_;refine su (eff_eql rfl rfl rfl) rfl ?_;refine sa rfl rfl ?_;refine st_nil ?_;refine aw_weak (l := [(2, .ptr 2 0), (3, .ptr 3 0), (4, .ptr 4 0), (5, .ptr 5 0), (6, .ptr 6 0), (7, .ptr 7 0), (8, .g (G.int 0)), (9, .g (G.str T)), (10, .g (G.str C)), (11, .g (G.bool true)), (12, .g (G.sl 1 (List.map cStr [SL, a0.Kind, a0.Airport, a0.Season, N5]))), (71, .g (G.bool (decide ((0 : Int) = 0))))]) (m := [(2, .box [.g (G.str ByteArray.empty), .g (G.str ByteArray.empty), .g (G.str ByteArray.empty), .g (G.int 0), .g (G.lit (.slice none 0 0))]), (3, .box [.g (G.int 0)]), (4, .box [.g (G.int 0)]), (5, .box [.g (G.str (⟨#[]⟩)), .g (G.str (⟨#[]⟩)), .g (G.str (⟨#[]⟩)), .g (G.int 0), .osl 2054 14 0 (0)]), (6, .box [.g (G.int (0 + 1))]), (7, .box [.g (G.bool false)]), (2054, .arr 35 14 (List.map S6034.c ([] : List S6034)))]) jA jA rfl ?_;refine aw_cond _ rfl (fun _ => ?_) (fun h_ => absurd h_ (by decide));refine aw_seq ?_;refine aw_region [.p, .p, .p, .p, .p, .w, .w, .p] ?_;refine sm rfl rfl ?_;refine su (eff_call rfl K6087 rfl (c6087 (g := g) hH) (ag_cons rfl ag_nil)) rfl ?_;refine sm rfl rfl ?_;refine su (eff_extract rfl rfl rfl) rfl ?_;refine su (eff_extract rfl rfl rfl) rfl ?_;refine sw (eff_alloc 13 rfl z6052 rfl rfl) rfl ?_;refine st_wn rfl rfl (eff_store (tv := .g (G.agg [G.str a0.Kind, G.str a0.Airport, G.str a0.Season, G.int a0.Day, G.lit (.slice none 0 0)])) rfl ty6052 rfl rfl rfl rfl rfl) ?_;refine sa rfl rfl ?_;refine st_nil ?_;refine aw_weak (l := [(2, .ptr 2 0), (3, .ptr 3 0), (4, .ptr 4 0), (5, .ptr 5 0), (6, .ptr 6 0), (7, .ptr 7 0), (13, .ptr 13 0), (14, .g (G.bool true))]) (m := [(2, .box [.g (G.str ByteArray.empty), .g (G.str ByteArray.empty), .g (G.str ByteArray.empty), .g (G.int 0), .g (G.lit (.slice none 0 0))]), (3, .box [.g (G.int 0)]), (4, .box [.g (G.int 0)]), (5, .box [.g (G.str (⟨#[]⟩)), .g (G.str (⟨#[]⟩)), .g (G.str (⟨#[]⟩)), .g (G.int 0), .osl 2054 14 0 (0)]), (6, .box [.g (G.int (0 + 1))]), (7, .box [.g (G.bool false)]), (13, .box [.g (G.str a0.Kind), .g (G.str a0.Airport), .g (G.str a0.Season), .g (G.int a0.Day), .g (G.lit (.slice none 0 0))]), (2054, .arr 35 14 (List.map S6034.c ([] : List S6034)))]) jA jA rfl ?_;refine aw_seq ?_;refine aw_seq ?_;refine aw_region [.p, .p] ?_;refine sm rfl rfl ?_;refine su (eff_not rfl rfl) rfl ?_;refine st_nil ?_;refine aw_weak (l := [(2, .ptr 2 0), (3, .ptr 3 0), (4, .ptr 4 0), (5, .ptr 5 0), (6, .ptr 6 0), (7, .ptr 7 0), (13, .ptr 13 0), (80, .g (G.bool (!true)))]) (m := [(2, .box [.g (G.str ByteArray.empty), .g (G.str ByteArray.empty), .g (G.str ByteArray.empty), .g (G.int 0), .g (G.lit (.slice none 0 0))]), (3, .box [.g (G.int 0)]), (4, .box [.g (G.int 0)]), (5, .box [.g (G.str (⟨#[]⟩)), .g (G.str (⟨#[]⟩)), .g (G.str (⟨#[]⟩)), .g (G.int 0), .osl 2054 14 0 (0)]), (6, .box [.g (G.int (0 + 1))]), (7, .box [.g (G.bool false)]), (13, .box [.g (G.str a0.Kind), .g (G.str a0.Airport), .g (G.str a0.Season), .g (G.int a0.Day), .g (G.lit (.slice none 0 0))]), (2054, .arr 35 14 (List.map S6034.c ([] : List S6034)))]) jA jA rfl ?_;refine aw_cond _ rfl (fun h_ => absurd h_ (by decide)) (fun _ => ?_);refine aw_skip ?_;refine aw_region [.r, .w] ?_;refine sr (eff_loadOA rfl ty6052 rfl rfl rfl rfl) rfl ?_;refine st_wn rfl rfl (eff_store (tv := .g (G.agg [G.str a0.Kind, G.str a0.Airport, G.str a0.Season, G.int a0.Day, G.lit (.slice none 0 0)])) rfl ty6052 rfl rfl rfl rfl rfl) ?_;refine st_nil ?_;exact fun a_ w_ ha_ => ⟨_, arel_renil 5 4 2054 14 35 rfl rfl rfl (refsM rfl) rfl ha_, rfl, (false, 0 + 1, a0.Kind, a0.Airport, a0.Season, a0.Day, ([] : List S6034)), pmi_head hp_ _, jA⟩
   ·dsimp only at hl60
    cases hx_
    dsimp only at hg_;obtain ⟨rfl, rfl, rfl, rfl, rfl, hls⟩ := hg_;refine aw_block ?_;refine aw_seq ?_;refine aw_region [.p, .p, .w] ?_;refine sm rfl rfl ?_;refine su (eff_add rfl rfl rfl (by first | exact hj1 | (unfold I64; omega))) rfl ?_;refine st_wn rfl rfl (eff_store (tv := .g (G.int (j + 1))) rfl ty3 rfl rfl rfl rfl rfl) ?_;refine st_nil ?_;refine aw_weak (l := [(2, .ptr 2 0), (3, .ptr 3 0), (4, .ptr 4 0), (5, .ptr 5 0), (6, .ptr 6 0), (7, .ptr 7 0), (8, .g (G.int j)), (9, .g (G.str P))]) (m := [(2, .box [.g (G.str ByteArray.empty), .g (G.str ByteArray.empty), .g (G.str ByteArray.empty), .g (G.int 0), .g (G.lit (.slice none 0 0))]), (3, .box [.g (G.int 0)]), (4, .box [.g (G.int 0)]), (5, .box [.g (G.str a0.Kind), .g (G.str a0.Airport), .g (G.str a0.Season), .g (G.int a0.Day), .osl 2054 14 0 (List.length x7)]), (6, .box [.g (G.int (j + 1))]), (7, .box [.g (G.bool false)]), (2054, .arr 35 14 (List.map S6034.c x7))]) jA jA rfl ?_;refine aw_seq ?_;refine aw_region [.p, .p, .p, .p, .p, .p, .p] ?_;refine sm rfl rfl ?_;refine su (eff_call rfl K6086 rfl (c6086_nl hL.cut hL.tsz) (ag_cons rfl (ag_cons rfl ag_nil))) rfl ?_;refine sm rfl rfl ?_;refine su (eff_extract rfl rfl rfl) rfl ?_;refine su (eff_extract rfl rfl rfl) rfl ?_;refine sa rfl rfl ?_;refine sa rfl rfl ?_;refine st_nil ?_;refine aw_weak (l := [(2, .ptr 2 0), (3, .ptr 3 0), (4, .ptr 4 0), (5, .ptr 5 0), (6, .ptr 6 0), (7, .ptr 7 0), (8, .g (G.int j)), (9, .g (G.str P)), (10, .g (G.str C)), (11, .g (G.bool true))]) (m := [(2, .box [.g (G.str ByteArray.empty), .g (G.str ByteArray.empty), .g (G.str ByteArray.empty), .g (G.int 0), .g (G.lit (.slice none 0 0))]), (3, .box [.g (G.int 0)]), (4, .box [.g (G.int 0)]), (5, .box [.g (G.str a0.Kind), .g (G.str a0.Airport), .g (G.str a0.Season), .g (G.int a0.Day), .osl 2054 14 0 (List.length x7)]), (6, .box [.g (G.int (j + 1))]), (7, .box [.g (G.bool false)]), (2054, .arr 35 14 (List.map S6034.c x7))]) jA jA rfl ?_;refine aw_seq ?_;refine aw_region [.p, .p, .p] ?_;refine sm rfl rfl ?_;refine su (eff_call rfl K6030 rfl (c6030_e (g := g) hL.csz hL.spl) (ag_cons rfl (ag_cons rfl ag_nil))) rfl ?_;refine sa rfl rfl ?_;refine st_nil ?_;refine aw_weak (l := [(2, .ptr 2 0), (3, .ptr 3 0), (4, .ptr 4 0), (5, .ptr 5 0), (6, .ptr 6 0), (7, .ptr 7 0), (8, .g (G.int j)), (9, .g (G.str P)), (10, .g (G.str C)), (11, .g (G.bool true)), (12, .g (G.sl 1 (List.map cStr (w0 :: Ws))))]) (m := [(2, .box [.g (G.str ByteArray.empty), .g (G.str ByteArray.empty), .g (G.str ByteArray.empty), .g (G.int 0), .g (G.lit (.slice none 0 0))]), (3, .box [.g (G.int 0)]), (4, .box [.g (G.int 0)]), (5, .box [.g (G.str a0.Kind), .g (G.str a0.Airport), .g (G.str a0.Season), .g (G.int a0.Day), .osl 2054 14 0 (List.length x7)]), (6, .box [.g (G.int (j + 1))]), (7, .box [.g (G.bool false)]), (2054, .arr 35 14 (List.map S6034.c x7))]) jA jA rfl ?_;refine aw_block ?_;refine aw_seq ?_;refine aw_region [.p, .p, .p] ?_;refine sm rfl rfl ?_;refine su (eff_eql rfl rfl rfl) rfl ?_;refine sa rfl rfl ?_;refine st_nil ?_;refine aw_weak (l := [(2, .ptr 2 0), (3, .ptr 3 0), (4, .ptr 4 0), (5, .ptr 5 0), (6, .ptr 6 0), (7, .ptr 7 0), (8, .g (G.int j)), (9, .g (G.str P)), (10, .g (G.str C)), (11, .g (G.bool true)), (12, .g (G.sl 1 (List.map cStr (w0 :: Ws)))), (71, .g (G.bool (decide (j = 0))))]) (m := [(2, .box [.g (G.str ByteArray.empty), .g (G.str ByteArray.empty), .g (G.str ByteArray.empty), .g (G.int 0), .g (G.lit (.slice none 0 0))]), (3, .box [.g (G.int 0)]), (4, .box [.g (G.int 0)]), (5, .box [.g (G.str a0.Kind), .g (G.str a0.Airport), .g (G.str a0.Season), .g (G.int a0.Day), .osl 2054 14 0 (List.length x7)]), (6, .box [.g (G.int (j + 1))]), (7, .box [.g (G.bool false)]), (2054, .arr 35 14 (List.map S6034.c x7))]) jA jA rfl ?_;refine aw_cond _ rfl (fun h4 => ?_) (fun h4 => ?_)
    ·replace h4 : (decide (j = 0)) = true := h4
     exfalso; exact absurd (of_decide_eq_true h4) hj0
    ·replace h4 : (decide (j = 0)) = false := h4;(try simp only [bB] at h4);refine aw_seq ?_;refine aw_region [.p, .p, .p, .r, .p, .p] ?_;refine sm rfl rfl ?_;refine su (eff_not rfl rfl) rfl ?_;refine sm rfl rfl ?_;refine st_gr rfl rfl rfl (gb_bool _ _) (fun h => eff_loadO rfl ty4 rfl rfl rfl) rfl ?_;refine su (eff_or (v := .bool false) rfl rfl rfl rfl) rfl ?_;refine sa rfl rfl ?_;refine st_nil ?_;refine aw_weak (l := [(2, .ptr 2 0), (3, .ptr 3 0), (4, .ptr 4 0), (5, .ptr 5 0), (6, .ptr 6 0), (7, .ptr 7 0), (8, .g (G.int j)), (10, .g (G.str C)), (12, .g (G.sl 1 (List.map cStr (w0 :: Ws)))), (83, .g (G.bool ((!true) || false)))]) (m := [(2, .box [.g (G.str ByteArray.empty), .g (G.str ByteArray.empty), .g (G.str ByteArray.empty), .g (G.int 0), .g (G.lit (.slice none 0 0))]), (3, .box [.g (G.int 0)]), (4, .box [.g (G.int 0)]), (5, .box [.g (G.str a0.Kind), .g (G.str a0.Airport), .g (G.str a0.Season), .g (G.int a0.Day), .osl 2054 14 0 (List.length x7)]), (6, .box [.g (G.int (j + 1))]), (7, .box [.g (G.bool false)]), (2054, .arr 35 14 (List.map S6034.c x7))]) jA jA rfl ?_;refine aw_cond _ rfl (fun h5 => ?_) (fun h5 => ?_)
     ·replace h5 : ((!true) || false) = true := h5
      exfalso; exact absurd h5 (by decide)
     ·replace h5 : ((!true) || false) = false := h5;(try simp only [bB] at h5);refine aw_seq ?_;refine Exists.elim (show ∃ z_, (ixO (w0 :: Ws) 0) = some z_ from ⟨_, rfl⟩) (fun y9 by9 => ?_);refine aw_region [.p, .p, .p, .p, .p] ?_;refine sm rfl rfl ?_;refine su (eff_ix (f := cStr) (l := w0 :: Ws) (a := y9) rfl Tryz.underlying43 ty9 rfl rfl (ixO_nn by9) (ixO_get by9)) rfl ?_;refine su (eff_load rfl ty9 rfl) rfl ?_;refine su (eff_sne rfl rfl rfl) rfl ?_;refine sa rfl rfl ?_;refine st_nil ?_;refine aw_weak (l := [(2, .ptr 2 0), (3, .ptr 3 0), (4, .ptr 4 0), (5, .ptr 5 0), (6, .ptr 6 0), (7, .ptr 7 0), (8, .g (G.int j)), (10, .g (G.str C)), (12, .g (G.sl 1 (List.map cStr (w0 :: Ws)))), (91, .g (G.bool (!decide (y9 = (⟨#[69, 78, 68]⟩)))))]) (m := [(2, .box [.g (G.str ByteArray.empty), .g (G.str ByteArray.empty), .g (G.str ByteArray.empty), .g (G.int 0), .g (G.lit (.slice none 0 0))]), (3, .box [.g (G.int 0)]), (4, .box [.g (G.int 0)]), (5, .box [.g (G.str a0.Kind), .g (G.str a0.Airport), .g (G.str a0.Season), .g (G.int a0.Day), .osl 2054 14 0 (List.length x7)]), (6, .box [.g (G.int (j + 1))]), (7, .box [.g (G.bool false)]), (2054, .arr 35 14 (List.map S6034.c x7))]) jA jA rfl ?_;refine aw_cond _ rfl (fun h6 => ?_) (fun h6 => ?_)
      ·replace h6 : (!decide (y9 = (⟨#[69, 78, 68]⟩))) = true := h6;(try simp only [bB] at h6);refine aw_seq ?_;refine aw_region [.p, .p, .p, .p, .p, .p, .w, .w, .p, .p] ?_;refine sm rfl rfl ?_;refine su (eff_call rfl K6009 rfl (c6009_e (g := g) (E := 0) hL.lp hL.tx rfl) (ag_cons rfl ag_nil)) rfl ?_;refine sm rfl rfl ?_;refine su (eff_extract rfl rfl rfl) rfl ?_;refine su (eff_extract rfl rfl rfl) rfl ?_;refine su (eff_extract rfl rfl rfl) rfl ?_;refine sw (eff_alloc 15 rfl z6035 rfl rfl) rfl ?_;refine st_wn rfl rfl (eff_store (tv := .g (G.agg [G.str y.Action, G.str y.Request.Name, G.str y.Request.Carrier, G.str y.Request.Kind, G.str y.Request.Terminal, G.str y.Request.Partner, G.str y.Request.Link, G.int y.Request.Period.fFrom, G.int y.Request.Period.fTo, G.int y.Request.Period.Days, G.int y.Request.Minute, G.int y.Request.Seats, G.int y.Request.Size, G.int y.Request.Noise])) rfl ty6035 rfl rfl rfl rfl rfl) ?_;refine sa rfl rfl ?_;refine sa rfl rfl ?_;refine st_nil ?_;refine aw_weak (l := [(2, .ptr 2 0), (3, .ptr 3 0), (4, .ptr 4 0), (5, .ptr 5 0), (6, .ptr 6 0), (7, .ptr 7 0), (8, .g (G.int j)), (15, .ptr 15 0), (17, .g (G.int 0))]) (m := [(2, .box [.g (G.str ByteArray.empty), .g (G.str ByteArray.empty), .g (G.str ByteArray.empty), .g (G.int 0), .g (G.lit (.slice none 0 0))]), (3, .box [.g (G.int 0)]), (4, .box [.g (G.int 0)]), (5, .box [.g (G.str a0.Kind), .g (G.str a0.Airport), .g (G.str a0.Season), .g (G.int a0.Day), .osl 2054 14 0 (List.length x7)]), (6, .box [.g (G.int (j + 1))]), (7, .box [.g (G.bool false)]), (15, .box [.g (G.str y.Action), .g (G.str y.Request.Name), .g (G.str y.Request.Carrier), .g (G.str y.Request.Kind), .g (G.str y.Request.Terminal), .g (G.str y.Request.Partner), .g (G.str y.Request.Link), .g (G.int y.Request.Period.fFrom), .g (G.int y.Request.Period.fTo), .g (G.int y.Request.Period.Days), .g (G.int y.Request.Minute), .g (G.int y.Request.Seats), .g (G.int y.Request.Size), .g (G.int y.Request.Noise)]), (2054, .arr 35 14 (List.map S6034.c x7))]) jA jA rfl ?_;refine aw_seq ?_;refine aw_seq ?_;refine aw_region [.p, .p, .r, .p, .p, .p, .p, .p, .p] ?_;refine sm rfl rfl ?_;refine su (eff_fieldO rfl fl6052_4 rfl) rfl ?_;refine sr (eff_loadO rfl ty6050 rfl rfl rfl) rfl ?_;refine su (eff_lenO0 rfl Tryz.underlying50 rfl) rfl ?_;refine su (eff_geq rfl rfl rfl) rfl ?_;refine su (eff_call rfl K4085 rfl (c4085_0 (decide_eq_false (by omega))) (ag_cons rfl (ag_cons rfl ag_nil))) rfl ?_;refine su (eff_buildSlice rfl Tryz.underlying93 ty37 z37 rfl (ps_cons rfl (ps_cons rfl ps_nil)) rfl (by simp []) (by decide)) rfl ?_;refine su (eff_call rfl K4082 rfl (c4082_00) (ag_cons rfl ag_nil)) rfl ?_;refine sa rfl rfl ?_;refine st_nil ?_;refine aw_weak (l := [(2, .ptr 2 0), (3, .ptr 3 0), (4, .ptr 4 0), (5, .ptr 5 0), (6, .ptr 6 0), (7, .ptr 7 0), (8, .g (G.int j)), (15, .ptr 15 0), (17, .g (G.int 0))]) (m := [(2, .box [.g (G.str ByteArray.empty), .g (G.str ByteArray.empty), .g (G.str ByteArray.empty), .g (G.int 0), .g (G.lit (.slice none 0 0))]), (3, .box [.g (G.int 0)]), (4, .box [.g (G.int 0)]), (5, .box [.g (G.str a0.Kind), .g (G.str a0.Airport), .g (G.str a0.Season), .g (G.int a0.Day), .osl 2054 14 0 (List.length x7)]), (6, .box [.g (G.int (j + 1))]), (7, .box [.g (G.bool false)]), (15, .box [.g (G.str y.Action), .g (G.str y.Request.Name), .g (G.str y.Request.Carrier), .g (G.str y.Request.Kind), .g (G.str y.Request.Terminal), .g (G.str y.Request.Partner), .g (G.str y.Request.Link), .g (G.int y.Request.Period.fFrom), .g (G.int y.Request.Period.fTo), .g (G.int y.Request.Period.Days), .g (G.int y.Request.Minute), .g (G.int y.Request.Seats), .g (G.int y.Request.Size), .g (G.int y.Request.Noise)]), (2054, .arr 35 14 (List.map S6034.c x7))]) jA jA rfl ?_;refine aw_seq ?_;refine aw_region [.p, .p] ?_;refine sm rfl rfl ?_;refine su (eff_neq rfl rfl rfl) rfl ?_;refine st_nil ?_;refine aw_weak (l := [(2, .ptr 2 0), (3, .ptr 3 0), (4, .ptr 4 0), (5, .ptr 5 0), (6, .ptr 6 0), (7, .ptr 7 0), (8, .g (G.int j)), (15, .ptr 15 0), (17, .g (G.int 0)), (111, .g (G.bool (decide ((0 : Int) ≠ 0))))]) (m := [(2, .box [.g (G.str ByteArray.empty), .g (G.str ByteArray.empty), .g (G.str ByteArray.empty), .g (G.int 0), .g (G.lit (.slice none 0 0))]), (3, .box [.g (G.int 0)]), (4, .box [.g (G.int 0)]), (5, .box [.g (G.str a0.Kind), .g (G.str a0.Airport), .g (G.str a0.Season), .g (G.int a0.Day), .osl 2054 14 0 (List.length x7)]), (6, .box [.g (G.int (j + 1))]), (7, .box [.g (G.bool false)]), (15, .box [.g (G.str y.Action), .g (G.str y.Request.Name), .g (G.str y.Request.Carrier), .g (G.str y.Request.Kind), .g (G.str y.Request.Terminal), .g (G.str y.Request.Partner), .g (G.str y.Request.Link), .g (G.int y.Request.Period.fFrom), .g (G.int y.Request.Period.fTo), .g (G.int y.Request.Period.Days), .g (G.int y.Request.Minute), .g (G.int y.Request.Seats), .g (G.int y.Request.Size), .g (G.int y.Request.Noise)]), (2054, .arr 35 14 (List.map S6034.c x7))]) jA jA rfl ?_;refine aw_cond _ rfl (fun h_ => absurd h_ (by decide)) (fun _ => ?_);refine aw_skip ?_;refine aw_region [.p, .r, .r, .p, .k, .p, .w] ?_;refine su (eff_fieldO rfl fl6052_4 rfl) rfl ?_;refine sr (eff_loadO rfl ty6050 rfl rfl rfl) rfl ?_;refine sr (eff_loadOA rfl ty6035 rfl rfl rfl rfl) rfl ?_;refine su (eff_buildSlice rfl Tryz.underlying50 ty6035 z6035 rfl (ps_cons rfl ps_nil) rfl (by simp [S6034.c, S115.c, S45.c]) (by decide)) rfl ?_;refine st_k rfl rfl (eff_forget 5 4 rfl (eff_appL (f := S6034.c) (out := x7) (new := [y]) rfl app6050 rfl rfl (src_eq rfl (src_sl (by decide) (by simp [S6034.c, S115.c, S45.c]))) (refsM rfl) (by simp; omega))) rfl ?_;refine su (eff_fieldO rfl fl6052_4 rfl) rfl ?_;refine st_wn rfl rfl (eff_store (tv := .osl 2054 14 0 (List.length (x7 ++ [y]))) rfl ty6050 rfl rfl rfl rfl rfl) ?_;refine st_nil ?_;exact ⟨rfl, (false, j + 1, a0.Kind, a0.Airport, a0.Season, a0.Day, x7 ++ [y]), pmi_line hp_ hy_ hls _, jA⟩
      ·replace h6 : (!decide (y9 = (⟨#[69, 78, 68]⟩))) = false := h6
       exfalso; exact absurd h6 (hL.neq by9)
   ·cases hx_
    dsimp only at hg_;obtain ⟨rfl, rfl, rfl, rfl, rfl, hls⟩ := hg_;refine aw_block ?_;refine aw_seq ?_;refine aw_region [.p, .p, .w] ?_;refine sm rfl rfl ?_;refine su (eff_add rfl rfl rfl (by first | exact hj1 | (unfold I64; omega))) rfl ?_;refine st_wn rfl rfl (eff_store (tv := .g (G.int (j + 1))) rfl ty3 rfl rfl rfl rfl rfl) ?_;refine st_nil ?_;refine aw_weak (l := [(2, .ptr 2 0), (3, .ptr 3 0), (4, .ptr 4 0), (5, .ptr 5 0), (6, .ptr 6 0), (7, .ptr 7 0), (8, .g (G.int j)), (9, .g (G.str P))]) (m := [(2, .box [.g (G.str ByteArray.empty), .g (G.str ByteArray.empty), .g (G.str ByteArray.empty), .g (G.int 0), .g (G.lit (.slice none 0 0))]), (3, .box [.g (G.int 0)]), (4, .box [.g (G.int 0)]), (5, .box [.g (G.str a0.Kind), .g (G.str a0.Airport), .g (G.str a0.Season), .g (G.int a0.Day), .osl 2054 14 0 (List.length x7)]), (6, .box [.g (G.int (j + 1))]), (7, .box [.g (G.bool false)]), (2054, .arr 35 14 (List.map S6034.c x7))]) jA jA rfl ?_;refine aw_seq ?_;refine aw_region [.p, .p, .p, .p, .p, .p, .p] ?_;refine sm rfl rfl ?_;refine su (eff_call rfl K6086 rfl (c6086_nl hL.cut hL.tsz) (ag_cons rfl (ag_cons rfl ag_nil))) rfl ?_;refine sm rfl rfl ?_;refine su (eff_extract rfl rfl rfl) rfl ?_;refine su (eff_extract rfl rfl rfl) rfl ?_;refine sa rfl rfl ?_;refine sa rfl rfl ?_;refine st_nil ?_;refine aw_weak (l := [(2, .ptr 2 0), (3, .ptr 3 0), (4, .ptr 4 0), (5, .ptr 5 0), (6, .ptr 6 0), (7, .ptr 7 0), (8, .g (G.int j)), (9, .g (G.str P)), (10, .g (G.str C)), (11, .g (G.bool true))]) (m := [(2, .box [.g (G.str ByteArray.empty), .g (G.str ByteArray.empty), .g (G.str ByteArray.empty), .g (G.int 0), .g (G.lit (.slice none 0 0))]), (3, .box [.g (G.int 0)]), (4, .box [.g (G.int 0)]), (5, .box [.g (G.str a0.Kind), .g (G.str a0.Airport), .g (G.str a0.Season), .g (G.int a0.Day), .osl 2054 14 0 (List.length x7)]), (6, .box [.g (G.int (j + 1))]), (7, .box [.g (G.bool false)]), (2054, .arr 35 14 (List.map S6034.c x7))]) jA jA rfl ?_;refine aw_seq ?_;refine aw_region [.p, .p, .p] ?_;refine sm rfl rfl ?_;refine su (eff_call rfl K6030 rfl (c6030_e (g := g) hL.csz hL.spl) (ag_cons rfl (ag_cons rfl ag_nil))) rfl ?_;refine sa rfl rfl ?_;refine st_nil ?_;refine aw_weak (l := [(2, .ptr 2 0), (3, .ptr 3 0), (4, .ptr 4 0), (5, .ptr 5 0), (6, .ptr 6 0), (7, .ptr 7 0), (8, .g (G.int j)), (9, .g (G.str P)), (10, .g (G.str C)), (11, .g (G.bool true)), (12, .g (G.sl 1 (List.map cStr [EN, N2])))]) (m := [(2, .box [.g (G.str ByteArray.empty), .g (G.str ByteArray.empty), .g (G.str ByteArray.empty), .g (G.int 0), .g (G.lit (.slice none 0 0))]), (3, .box [.g (G.int 0)]), (4, .box [.g (G.int 0)]), (5, .box [.g (G.str a0.Kind), .g (G.str a0.Airport), .g (G.str a0.Season), .g (G.int a0.Day), .osl 2054 14 0 (List.length x7)]), (6, .box [.g (G.int (j + 1))]), (7, .box [.g (G.bool false)]), (2054, .arr 35 14 (List.map S6034.c x7))]) jA jA rfl ?_;refine aw_block ?_;refine aw_seq ?_;refine aw_region [.p, .p, .p] ?_;refine sm rfl rfl ?_;refine su (eff_eql rfl rfl rfl) rfl ?_;refine sa rfl rfl ?_;refine st_nil ?_;refine aw_weak (l := [(2, .ptr 2 0), (3, .ptr 3 0), (4, .ptr 4 0), (5, .ptr 5 0), (6, .ptr 6 0), (7, .ptr 7 0), (8, .g (G.int j)), (9, .g (G.str P)), (10, .g (G.str C)), (11, .g (G.bool true)), (12, .g (G.sl 1 (List.map cStr [EN, N2]))), (71, .g (G.bool (decide (j = 0))))]) (m := [(2, .box [.g (G.str ByteArray.empty), .g (G.str ByteArray.empty), .g (G.str ByteArray.empty), .g (G.int 0), .g (G.lit (.slice none 0 0))]), (3, .box [.g (G.int 0)]), (4, .box [.g (G.int 0)]), (5, .box [.g (G.str a0.Kind), .g (G.str a0.Airport), .g (G.str a0.Season), .g (G.int a0.Day), .osl 2054 14 0 (List.length x7)]), (6, .box [.g (G.int (j + 1))]), (7, .box [.g (G.bool false)]), (2054, .arr 35 14 (List.map S6034.c x7))]) jA jA rfl ?_;refine aw_cond _ rfl (fun h8 => ?_) (fun h8 => ?_)
    ·replace h8 : (decide (j = 0)) = true := h8
     exfalso; exact absurd (of_decide_eq_true h8) hj0
    ·replace h8 : (decide (j = 0)) = false := h8;(try simp only [bB] at h8);refine aw_seq ?_;refine aw_region [.p, .p, .p, .r, .p, .p] ?_;refine sm rfl rfl ?_;refine su (eff_not rfl rfl) rfl ?_;refine sm rfl rfl ?_;refine st_gr rfl rfl rfl (gb_bool _ _) (fun h => eff_loadO rfl ty4 rfl rfl rfl) rfl ?_;refine su (eff_or (v := .bool false) rfl rfl rfl rfl) rfl ?_;refine sa rfl rfl ?_;refine st_nil ?_;refine aw_weak (l := [(2, .ptr 2 0), (3, .ptr 3 0), (4, .ptr 4 0), (5, .ptr 5 0), (6, .ptr 6 0), (7, .ptr 7 0), (8, .g (G.int j)), (10, .g (G.str C)), (12, .g (G.sl 1 (List.map cStr [EN, N2]))), (83, .g (G.bool ((!true) || false)))]) (m := [(2, .box [.g (G.str ByteArray.empty), .g (G.str ByteArray.empty), .g (G.str ByteArray.empty), .g (G.int 0), .g (G.lit (.slice none 0 0))]), (3, .box [.g (G.int 0)]), (4, .box [.g (G.int 0)]), (5, .box [.g (G.str a0.Kind), .g (G.str a0.Airport), .g (G.str a0.Season), .g (G.int a0.Day), .osl 2054 14 0 (List.length x7)]), (6, .box [.g (G.int (j + 1))]), (7, .box [.g (G.bool false)]), (2054, .arr 35 14 (List.map S6034.c x7))]) jA jA rfl ?_;refine aw_cond _ rfl (fun h9 => ?_) (fun h9 => ?_)
     ·replace h9 : ((!true) || false) = true := h9
      exfalso; exact absurd h9 (by decide)
     ·replace h9 : ((!true) || false) = false := h9;(try simp only [bB] at h9);refine aw_seq ?_;refine aw_region [.p, .p, .p, .p, .p] ?_;refine sm rfl rfl ?_;refine su (eff_ix (f := cStr) (l := [EN, N2]) (a := EN) rfl Tryz.underlying43 ty9 rfl rfl (by decide) rfl) rfl ?_;refine su (eff_load rfl ty9 rfl) rfl ?_;refine su (eff_sne rfl rfl rfl) rfl ?_;refine sa rfl rfl ?_;refine st_nil ?_;refine aw_weak (l := [(2, .ptr 2 0), (3, .ptr 3 0), (4, .ptr 4 0), (5, .ptr 5 0), (6, .ptr 6 0), (7, .ptr 7 0), (8, .g (G.int j)), (10, .g (G.str C)), (12, .g (G.sl 1 (List.map cStr [EN, N2]))), (91, .g (G.bool (!decide (EN = (⟨#[69, 78, 68]⟩)))))]) (m := [(2, .box [.g (G.str ByteArray.empty), .g (G.str ByteArray.empty), .g (G.str ByteArray.empty), .g (G.int 0), .g (G.lit (.slice none 0 0))]), (3, .box [.g (G.int 0)]), (4, .box [.g (G.int 0)]), (5, .box [.g (G.str a0.Kind), .g (G.str a0.Airport), .g (G.str a0.Season), .g (G.int a0.Day), .osl 2054 14 0 (List.length x7)]), (6, .box [.g (G.int (j + 1))]), (7, .box [.g (G.bool false)]), (2054, .arr 35 14 (List.map S6034.c x7))]) jA jA rfl ?_;refine aw_cond _ rfl (fun h10 => ?_) (fun h10 => ?_)
      ·replace h10 : (!decide (EN = (⟨#[69, 78, 68]⟩))) = true := h10
       exfalso; rw [hL.en] at h10; exact absurd h10 (by decide)
      ·replace h10 : (!decide (EN = (⟨#[69, 78, 68]⟩))) = false := h10;(try simp only [bB] at h10);refine aw_seq ?_;refine Exists.elim (show ∃ z_, (ixO [EN, N2] (IntKind.i64.wrap ((List.length [EN, N2] : Int) - 1))) = some z_ from ⟨_, rfl⟩) (fun y10 by10 => ?_);refine aw_region [.p, .p, .p, .p, .p, .p, .p, .p, .p, .p, .p, .p] ?_;refine sm rfl rfl ?_;refine sm rfl rfl ?_;refine su (eff_lenM (f := cStr) (l := [EN, N2]) rfl Tryz.underlying43 rfl) rfl ?_;refine su (eff_subw rfl rfl rfl) rfl ?_;refine su (eff_ix (f := cStr) (l := [EN, N2]) (a := y10) rfl Tryz.underlying43 ty9 rfl rfl (ixO_nn by10) (ixO_get by10)) rfl ?_;refine su (eff_load rfl ty9 rfl) rfl ?_;refine su (eff_call rfl K6088 rfl (c6088_e ((congrArg (fun z_ => s6088 z_ 2) (Option.some.inj by10).symm).trans hL.num)) (ag_cons rfl (ag_cons rfl ag_nil))) rfl ?_;refine sm rfl rfl ?_;refine su (eff_extract rfl rfl rfl) rfl ?_;refine su (eff_extract rfl rfl rfl) rfl ?_;refine sa rfl rfl ?_;refine sa rfl rfl ?_;refine st_nil ?_;refine aw_weak (l := [(2, .ptr 2 0), (3, .ptr 3 0), (4, .ptr 4 0), (5, .ptr 5 0), (6, .ptr 6 0), (7, .ptr 7 0), (8, .g (G.int j)), (12, .g (G.sl 1 (List.map cStr [EN, N2]))), (18, .g (G.int (List.length a0.Lines : Int))), (19, .g (G.bool true))]) (m := [(2, .box [.g (G.str ByteArray.empty), .g (G.str ByteArray.empty), .g (G.str ByteArray.empty), .g (G.int 0), .g (G.lit (.slice none 0 0))]), (3, .box [.g (G.int 0)]), (4, .box [.g (G.int 0)]), (5, .box [.g (G.str a0.Kind), .g (G.str a0.Airport), .g (G.str a0.Season), .g (G.int a0.Day), .osl 2054 14 0 (List.length x7)]), (6, .box [.g (G.int (j + 1))]), (7, .box [.g (G.bool false)]), (2054, .arr 35 14 (List.map S6034.c x7))]) jA jA rfl ?_;refine aw_seq ?_;refine aw_seq ?_;refine aw_draw [.p, .p, .p, .p, .p, .p, .p, .p, .p, .p, .r, .p, .p, .p, .p, .p, .p] (by kernel_rfl) ?_;refine sm rfl rfl ?_;refine su (eff_lenM (f := cStr) (l := [EN, N2]) rfl Tryz.underlying43 rfl) rfl ?_;refine su (eff_neq rfl rfl rfl) rfl ?_;refine sm rfl rfl ?_;refine sg rfl rfl (fun h => eff_moveg rfl rfl) rfl ?_;refine sg rfl rfl (fun h => eff_not rfl (gd (y := undefT) h rfl)) rfl ?_;refine su (eff_or (v := .bool false) rfl rfl rfl rfl) rfl ?_;refine su (eff_call rfl K4085 rfl (c4085_0 (by rfl)) (ag_cons rfl (ag_cons rfl ag_nil))) rfl ?_;refine sm rfl rfl ?_;refine su (eff_fieldO rfl fl6052_4 rfl) rfl ?_;refine sr (eff_loadO rfl ty6050 rfl rfl rfl) rfl ?_;refine su (eff_lenO0 rfl Tryz.underlying50 rfl) rfl ?_;refine su (eff_neq rfl rfl rfl) rfl ?_;refine su (eff_call rfl K4085 rfl (c4085_0 (decide_eq_false (by rw [hls]; simp))) (ag_cons rfl (ag_cons rfl ag_nil))) rfl ?_;refine su (eff_buildSlice rfl Tryz.underlying93 ty37 z37 rfl (ps_cons rfl (ps_cons rfl ps_nil)) rfl (by simp []) (by decide)) rfl ?_;refine su (eff_call rfl K4082 rfl (c4082_00) (ag_cons rfl ag_nil)) rfl ?_;refine sa rfl rfl ?_;refine st_nil ?_;refine aw_weak (l := [(2, .ptr 2 0), (3, .ptr 3 0), (4, .ptr 4 0), (5, .ptr 5 0), (6, .ptr 6 0), (7, .ptr 7 0), (8, .g (G.int j)), (20, .g (G.int 0))]) (m := [(2, .box [.g (G.str ByteArray.empty), .g (G.str ByteArray.empty), .g (G.str ByteArray.empty), .g (G.int 0), .g (G.lit (.slice none 0 0))]), (3, .box [.g (G.int 0)]), (4, .box [.g (G.int 0)]), (5, .box [.g (G.str a0.Kind), .g (G.str a0.Airport), .g (G.str a0.Season), .g (G.int a0.Day), .osl 2054 14 0 (List.length x7)]), (6, .box [.g (G.int (j + 1))]), (7, .box [.g (G.bool false)]), (2054, .arr 35 14 (List.map S6034.c x7))]) jA jA rfl ?_;refine aw_seq ?_;refine aw_region [.p, .p] ?_;refine sm rfl rfl ?_;refine su (eff_neq rfl rfl rfl) rfl ?_;refine st_nil ?_;refine aw_weak (l := [(2, .ptr 2 0), (3, .ptr 3 0), (4, .ptr 4 0), (5, .ptr 5 0), (6, .ptr 6 0), (7, .ptr 7 0), (8, .g (G.int j)), (20, .g (G.int 0)), (67, .g (G.bool (decide ((0 : Int) ≠ 0))))]) (m := [(2, .box [.g (G.str ByteArray.empty), .g (G.str ByteArray.empty), .g (G.str ByteArray.empty), .g (G.int 0), .g (G.lit (.slice none 0 0))]), (3, .box [.g (G.int 0)]), (4, .box [.g (G.int 0)]), (5, .box [.g (G.str a0.Kind), .g (G.str a0.Airport), .g (G.str a0.Season), .g (G.int a0.Day), .osl 2054 14 0 (List.length x7)]), (6, .box [.g (G.int (j + 1))]), (7, .box [.g (G.bool false)]), (2054, .arr 35 14 (List.map S6034.c x7))]) jA jA rfl ?_;refine aw_cond _ rfl (fun h_ => absurd h_ (by decide)) (fun _ => ?_);refine aw_skip ?_;refine aw_region [.w] ?_;refine st_wn rfl rfl (eff_store (tv := .g (G.bool true)) rfl ty4 rfl rfl rfl rfl rfl) ?_;refine st_nil ?_;exact ⟨rfl, (true, j + 1, a0.Kind, a0.Airport, a0.Season, a0.Day, x7), pmi_end hp_ hls _, jA⟩
  ·rintro ⟨x1, x2, x3, x4, x5, x6, x7⟩ hI_;have hg_ := pmi_done hI_;dsimp only at hg_;obtain ⟨rfl, rfl, rfl, rfl, rfl, rfl⟩ := hg_;refine aw_seq ?_;refine aw_seq ?_;refine aw_region [.r, .p] ?_;refine sr (eff_loadO rfl ty4 rfl rfl rfl) rfl ?_;refine su (eff_not rfl rfl) rfl ?_;refine st_nil ?_;refine aw_weak (l := [(2, .ptr 2 0), (3, .ptr 3 0), (4, .ptr 4 0), (5, .ptr 5 0), (6, .ptr 6 0), (122, .g (G.bool (!true)))]) (m := [(2, .box [.g (G.str ByteArray.empty), .g (G.str ByteArray.empty), .g (G.str ByteArray.empty), .g (G.int 0), .g (G.lit (.slice none 0 0))]), (3, .box [.g (G.int 0)]), (4, .box [.g (G.int 0)]), (5, .box [.g (G.str a0.Kind), .g (G.str a0.Airport), .g (G.str a0.Season), .g (G.int a0.Day), .osl 2054 14 0 (List.length a0.Lines)]), (6, .box [.g (G.int x2)]), (2054, .arr 35 14 (List.map S6034.c a0.Lines))]) jA jA rfl ?_;refine aw_cond _ rfl (fun h_ => absurd h_ (by decide)) (fun _ => ?_);refine aw_skip ?_;refine aw_seq ?_;refine aw_seq ?_;refine aw_frzcell (l := [(2, .ptr 2 0), (3, .ptr 3 0), (4, .ptr 4 0), (5, .ptr 5 0)]) (m := [(2, .box [.g (G.str ByteArray.empty), .g (G.str ByteArray.empty), .g (G.str ByteArray.empty), .g (G.int 0), .g (G.lit (.slice none 0 0))]), (3, .box [.g (G.int 0)]), (4, .box [.g (G.int 0)]), (5, .box [.g (G.str a0.Kind), .g (G.str a0.Airport), .g (G.str a0.Season), .g (G.int a0.Day), .g (G.sl 14 (List.map S6034.c a0.Lines))])]) 5 4 2054 14 _ rfl rfl rfl ((List.length_map ..).trans rfl) jA jA rfl rfl ?_;refine aw_region [.p, .r, .p, .r, .p, .p, .p, .p, .p, .p] ?_;refine su (eff_fieldO rfl fl6052_0 rfl) rfl ?_;refine sr (eff_loadO rfl ty9 rfl rfl rfl) rfl ?_;refine su (eff_fieldO rfl fl6052_4 rfl) rfl ?_;refine sr (eff_loadO rfl ty6050 rfl rfl rfl) rfl ?_;refine su (eff_call rfl K6089 rfl (c6089 (g := g) (R := ((0 : Int), (0 : Int))) a0.Kind a0.Lines (lines89 hM)) (ag_cons rfl (ag_cons rfl ag_nil))) rfl ?_;refine sm rfl rfl ?_;refine su (eff_extract rfl rfl rfl) rfl ?_;refine su (eff_extract rfl rfl rfl) rfl ?_;refine sa rfl rfl ?_;refine sa rfl rfl ?_;refine st_nil ?_;refine aw_weak (l := [(2, .ptr 2 0), (3, .ptr 3 0), (4, .ptr 4 0), (5, .ptr 5 0), (21, .g (G.int 0)), (22, .g (G.int 0))]) (m := [(2, .box [.g (G.str ByteArray.empty), .g (G.str ByteArray.empty), .g (G.str ByteArray.empty), .g (G.int 0), .g (G.lit (.slice none 0 0))]), (3, .box [.g (G.int 0)]), (4, .box [.g (G.int 0)]), (5, .box [.g (G.str a0.Kind), .g (G.str a0.Airport), .g (G.str a0.Season), .g (G.int a0.Day), .g (G.sl 14 (List.map S6034.c a0.Lines))])]) jA jA rfl ?_;refine aw_seq ?_;refine aw_region [.p, .p] ?_;refine sm rfl rfl ?_;refine su (eff_neq rfl rfl rfl) rfl ?_;refine st_nil ?_;refine aw_weak (l := [(2, .ptr 2 0), (3, .ptr 3 0), (4, .ptr 4 0), (5, .ptr 5 0), (21, .g (G.int 0)), (22, .g (G.int 0)), (134, .g (G.bool (decide ((0 : Int) ≠ 0))))]) (m := [(2, .box [.g (G.str ByteArray.empty), .g (G.str ByteArray.empty), .g (G.str ByteArray.empty), .g (G.int 0), .g (G.lit (.slice none 0 0))]), (3, .box [.g (G.int 0)]), (4, .box [.g (G.int 0)]), (5, .box [.g (G.str a0.Kind), .g (G.str a0.Airport), .g (G.str a0.Season), .g (G.int a0.Day), .g (G.sl 14 (List.map S6034.c a0.Lines))])]) jA jA rfl ?_;refine aw_cond _ rfl (fun h_ => absurd h_ (by decide)) (fun _ => ?_);refine aw_skip ?_;refine aw_seq ?_;refine aw_region [.r, .w, .w, .w] ?_;refine sr (eff_loadOA rfl ty6052 rfl rfl rfl rfl) rfl ?_;refine st_wn rfl rfl (eff_store (tv := .g (G.agg [G.str a0.Kind, G.str a0.Airport, G.str a0.Season, G.int a0.Day, G.sl 14 (List.map S6034.c a0.Lines)])) rfl ty6052 rfl rfl rfl rfl rfl) ?_;refine st_wn rfl rfl (eff_store (tv := .g (G.int 0)) rfl ty3 rfl rfl rfl rfl rfl) ?_;refine st_wn rfl rfl (eff_store (tv := .g (G.int 0)) rfl ty37 rfl rfl rfl rfl rfl) ?_;refine st_nil ?_;refine aw_ret ?_;exact resN rfl ⟨rv_cell rfl rfl ty6052 rfl rfl, rv_cell1 rfl rfl ty3 rfl, rv_cell1 rfl rfl ty37 rfl, trivial⟩ (by simp)
end Go.Sim
set_option maxRecDepth 10000
namespace Go.Sim
open Go.Proofs
def s6129 (a0 : S6090) (a1 : ByteArray) : Bool :=
 decide (a0.Request.Name = a1)
theorem c6129 {g : GL} [GlR g] (a0 : S6090) (a1 : ByteArray)    : Con (EG g) 129 [G.agg [G.str a0.Request.Name, G.str a0.Request.Carrier, G.str a0.Request.Kind, G.str a0.Request.Terminal, G.str a0.Request.Partner, G.str a0.Request.Link, G.int a0.Request.Period.fFrom, G.int a0.Request.Period.fTo, G.int a0.Request.Period.Days, G.int a0.Request.Minute, G.int a0.Request.Seats, G.int a0.Request.Size, G.int a0.Request.Noise, G.bool a0.Historic, G.int a0.Day], G.ref [G.str a1]] (G.bool (s6129 a0 a1)) := by
 generalize hR : s6129 a0 a1 = R;unfold s6129 at hR;refine con_of_aw Tryz.func129 rfl rfl fun w0 M0 => ?_;refine aw_seq ?_;refine aw_region [.p, .p] ?_;refine su (eff_box rfl rfl) rfl ?_;refine sa rfl rfl ?_;refine st_nil ?_;refine aw_seq ?_;refine aw_region [.p, .p, .p, .p, .p, .p] ?_;refine su (eff_fieldAddr rfl fl6091_0 rfl) rfl ?_;refine su (eff_fieldAddr rfl fl116_0 rfl) rfl ?_;refine su (eff_load rfl ty9 rfl) rfl ?_;refine su (eff_load rfl ty9 rfl) rfl ?_;refine su (eff_seq rfl rfl rfl) rfl ?_;refine sa rfl rfl ?_;refine st_nil ?_;refine aw_ret ?_;subst hR;exact res_c rfl (rv_g rfl)
def s6128_l1 (a1 : S6090 → Bool) : List S6090 → Nat → Int
 | [], k2 => (-1)
 | y3 :: t4, k2 => (bif (a1 y3) then ((k2 : Nat) : Int) else s6128_l1 a1 t4 (k2 + 1))
def s6128 (a0 : List S6090) (a1 : S6090 → Bool) : Int :=
 s6128_l1 a1 a0 0
theorem c6128 {g : GL} [GlR g] (a0 : List S6090) (a1 : S6090 → Bool) {ca1 : G} {ia1 : FuncId} {ka1 : List G} (ha1 : FnIs ca1 ia1 ka1) (Ka1 : Known Tryz.prog ia1) (Ha1 : ∀ (x0 : S6090), Con (EG g) ia1 ([G.agg [G.str x0.Request.Name, G.str x0.Request.Carrier, G.str x0.Request.Kind, G.str x0.Request.Terminal, G.str x0.Request.Partner, G.str x0.Request.Link, G.int x0.Request.Period.fFrom, G.int x0.Request.Period.fTo, G.int x0.Request.Period.Days, G.int x0.Request.Minute, G.int x0.Request.Seats, G.int x0.Request.Size, G.int x0.Request.Noise, G.bool x0.Historic, G.int x0.Day]] ++ ka1) (G.bool (a1 x0)))   : Con (EG g) 128 [G.sl 15 (List.map S6090.c a0), ca1] (G.int (s6128 a0 a1)) := by
 generalize hR : s6128 a0 a1 = R;unfold s6128 at hR;refine con_of_aw Tryz.func128 rfl rfl fun w0 M0 => ?_;refine len_sl (f := S6090.c) (l := a0) 0 rfl fun hla0 => ?_;refine aw_seq ?_;refine aw_region [.p] ?_;refine sa rfl rfl ?_;refine st_nil ?_;refine aw_seq ?_;refine aw_seq ?_;refine aw_region [.p, .p, .p] ?_;refine sm rfl rfl ?_;refine su (eff_lenM (f := S6090.c) (l := a0) rfl Tryz.underlying87 rfl) rfl ?_;refine sm rfl rfl ?_;refine st_nil ?_;refine aw_block ?_;refine aw_loop_g (γ := Nat × (List S6090)) (fun g => ([(0, .g (G.sl 15 (List.map S6090.c a0))), (1, .g (ca1)), (7, .g (G.int (List.length a0 : Int))), (8, .g (G.int ((g.1 : Nat) : Int)))], [])) (fun g => a0.drop g.1 = g.2 ∧ s6128_l1 a1 g.2 g.1 = R) (fun g => List.length g.2) ⟨rfl, (0, a0), jA, trivial, rfl, ⟨rfl, (by exact hR)⟩, trivial⟩ ?_
 ·rintro ⟨k2, t4⟩ ⟨hd, hR⟩;replace hd : a0.drop k2 = t4 := hd;replace hR : s6128_l1 a1 t4 k2 = R := hR;refine aw_seq ?_;refine aw_region [.p] ?_;refine su (eff_lss rfl rfl rfl) rfl ?_;refine st_nil ?_;refine len_sl (f := S6090.c) (l := a0) 0 rfl fun hlz1 => ?_;refine aw_seq ?_;refine aw_cond _ rfl (fun h1 => ?_) (fun h1 => ?_)
  ·replace h1 : (decide (((k2 : Nat) : Int) < (List.length a0 : Int))) = true := h1;obtain ⟨y3, t4, rfl, hx1, hd⟩ := drop_cons hd (decT h1);replace h1 := decT h1;rw [s6128_l1] at hR;(try dsimp only at hR);refine aw_skip ?_;refine aw_seq ?_;refine aw_block ?_;refine aw_seq ?_;refine aw_region [.p, .p] ?_;refine sm rfl rfl ?_;refine sa rfl rfl ?_;refine st_nil ?_;refine aw_seq ?_;refine aw_region [.p, .p, .p, .p, .p, .p] ?_;refine sm rfl rfl ?_;refine sm rfl rfl ?_;refine sm rfl rfl ?_;refine su (eff_ix (f := S6090.c) (l := a0) (a := y3) rfl Tryz.underlying87 ty6091 rfl rfl (Int.natCast_nonneg _) hx1) rfl ?_;refine su (eff_loadA rfl ty6091 rfl rfl rfl) rfl ?_;refine su (eff_callf rfl ha1 Ka1 rfl (Ha1 y3) (ag_cons rfl ag_nil)) rfl ?_;refine st_nil ?_;refine aw_cond _ rfl (fun h3 => ?_) (fun h3 => ?_)
   ·replace hR := condT hR h3;refine aw_seq ?_;refine aw_region [.p, .p] ?_;refine sm rfl rfl ?_;refine sa rfl rfl ?_;refine st_nil ?_;refine aw_ret ?_;subst hR;exact res_c rfl (rv_g rfl)
   ·replace h3 : ((a1 y3)) = false := h3;replace hR := condF hR h3;(try simp only [bB] at h3);refine aw_skip ?_;refine aw_region [.p, .p] ?_;refine su (eff_add rfl rfl rfl iE) rfl ?_;refine sm rfl rfl ?_;refine st_nil ?_;exact ⟨rfl, (k2 + 1, t4), jA, trivial, rfl, ⟨hd, hR⟩, by simp⟩
  ·replace h1 : (decide (((k2 : Nat) : Int) < (List.length a0 : Int))) = false := h1;obtain rfl := drop_nil hd (decF h1);rw [s6128_l1] at hR;refine aw_exit ?_;refine aw_seq ?_;refine aw_region [.p] ?_;refine sa rfl rfl ?_;refine st_nil ?_;refine aw_ret ?_;subst hR;exact res_c rfl (rv_g rfl)
def s6114 (a0 : List S6090) (a1 : ByteArray) : Int :=
 (s6128 a0 (fun x0 => s6129 x0 a1))
theorem c6114 {g : GL} [GlR g] (a0 : List S6090) (a1 : ByteArray)    : Con (EG g) 114 [G.sl 15 (List.map S6090.c a0), G.str a1] (G.int (s6114 a0 a1)) := by
 generalize hR : s6114 a0 a1 = R;unfold s6114 at hR;refine con_of_aw Tryz.func114 rfl rfl fun w0 M0 => ?_;refine len_sl (f := S6090.c) (l := a0) 0 rfl fun hla0 => ?_;refine aw_seq ?_;refine aw_region [.p, .p] ?_;refine su (eff_box rfl rfl) rfl ?_;refine sa rfl rfl ?_;refine st_nil ?_;refine aw_seq ?_;refine aw_region [.p, .p, .p, .p] ?_;refine sm rfl rfl ?_;refine su (eff_makeF rfl rfl rfl) rfl ?_;refine su (eff_call rfl K6128 rfl (c6128 a0 (fun x0 => s6129 x0 a1) fnis_fn K6129 (fun x0 => c6129 x0 a1)) (ag_cons rfl (ag_cons rfl ag_nil))) rfl ?_;refine sa rfl rfl ?_;refine st_nil ?_;refine aw_ret ?_;subst hR;exact res_c rfl (rv_g rfl)
section
variable {E : Env} {w0 : World} {M0 : Nat → Prop}
def MoreM (M : Nat → Prop) (ρ : Rho) (x : Option Own) (b : Nat) : Prop := owned M ρ b ∨ ∃ ow, x = some ow ∧ ow.b = b
def rho0 (x : Option Own) : Rho := fun i => if i = 0 then some x else none
def ConG (E : Env) (f : FuncId) (args : List TV) (e : TypeId) (k : Nat) (xs ys : List (List G)) (r : G) : Prop :=
 ∀ w M ρ (vs : List Value), (∀ b, M b → b < w.heap.size) → GlOk E w (owned M ρ) → (∀ id x, ρ id = some x → ∃ blk, lookO [(0, Blk.arr e k xs)] id = some blk) →
  (∀ id ow, ρ id = some (some ow) → ow.b < w.heap.size ∧ ¬ M ow.b) → (∀ id id' ow ow', ρ id = some (some ow) → ρ id' = some (some ow') → ow.b = ow'.b → id = id') →
  (∀ id blk, lookO [(0, Blk.arr e k xs)] id = some blk → BRel w (owned M ρ) ρ id blk) → ArgsT w (owned M ρ) ρ args vs →
  Calls E.P f vs.toArray w fun ex w' => ∃ v x, ex = .returned v ∧ BelowX (fun b => ∃ id ow, ρ id = some (some ow) ∧ ow.b = b) w w' ∧
   (∀ ow, x = some ow → ((∃ ow0, ρ 0 = some (some ow0) ∧ ow0.b = ow.b) ∨ w.heap.size ≤ ow.b) ∧ ow.b < w'.heap.size) ∧ BRel w' (MoreM M ρ x) (rho0 x) 0 (.arr e k ys) ∧ TRel w' (MoreM M ρ x) (rho0 x) (.tsl 0 k ys.length r) v
def Env.give (E : Env) (x : Option Own) : Env := ⟨E.P, E.gl, E.orders, [(7, none), (7, x)], E.rnd, E.mks, E.nb⟩
theorem give_lent {x : Option Own} {b : Nat} : (E.give x).lent b ↔ ∃ ow, x = some ow ∧ ow.b = b := by
 constructor
 ·rintro ⟨id, ow, h, rfl⟩
  rcases List.mem_cons.1 h with h | h
  ·cases h
  ·have h := List.mem_singleton.1 h
   cases h
   exact ⟨ow, rfl, rfl⟩
 ·rintro ⟨ow, rfl, rfl⟩;exact ⟨7, ow, by show (7, some ow) ∈ [(7, none), (7, some ow)]; simp, rfl⟩
theorem give_look {x : Option Own} {id : Nat} {y : Option Own} (h : lookO (E.give x).bow id = some y) : id = 7 ∧ y = none := by
 simp only [Env.give, lookO] at h
 cases hb : Nat.beq 7 id with
 | true =>
  rw [hb] at h;simp only [cond_true, Option.some.injEq] at h;exact ⟨(Nat.eq_of_beq_eq_true hb).symm, h.symm⟩
 | false =>
  rw [hb] at h;simp only [cond_false] at h
  cases h
theorem look0 {α : Type} {v : α} {id : Nat} {b : α} (h : lookO [((0 : Nat), v)] id = some b) : id = 0 ∧ b = v := by
 simp only [lookO] at h
 cases hb : Nat.beq 0 id with
 | true =>
  rw [hb] at h;simp only [cond_true, Option.some.injEq] at h;exact ⟨(Nat.eq_of_beq_eq_true hb).symm, h.symm⟩
 | false =>
  rw [hb] at h;simp only [cond_false] at h
  cases h
theorem ArgsT.rho {w : World} {M : Nat → Prop} {ρ ρ' : Rho} (hρ : ∀ id y, ρ id = some y → ρ' id = some y) : ∀ {cs : List TV} {vs : List Value}, ArgsT w M ρ cs vs → ArgsT w M ρ' cs vs
 | [], [], _ => trivial
 | c :: cs, v :: vs, h => ⟨TRel.mono none (by cases c <;> rfl) h.1 (fun _ _ _ => rfl) (fun _ _ h => h) (fun id _ hn => by
   cases hq : ρ id with
   | none => exact absurd hq hn
   | some y => exact hρ id y hq), ArgsT.rho hρ h.2⟩
 | [], _ :: _, h => h.elim
 | _ :: _, [], h => h.elim
def DoneG (fn : Func) (e : TypeId) (k : Nat) (ys : List (List G)) (r : G) : Exit → ASt → Prop
 | .ret, s | .normal, s => ∃ t t2 id N, fn.results = #[.tmp t, .tmp t2] ∧ s.get t2 = .g r ∧ s.get t = .osl id k 0 N ∧ lookO s.mem id = some (.arr e k ys) ∧ ys.length = N
 | _, _ => False
theorem conG_of_aw {f : FuncId} {fn : Func} {c : Code} {args : List TV} {e : TypeId} {k : Nat} {xs ys : List (List G)} {r : G} (hf : E.P.funcs[f]? = some fn) (hb : fn.body = some c) (hn0 : Nat.ble args.length fn.ntmps = true)
  (h : ∀ w0 M0 x, AWp (E.give x) w0 M0 c (DoneG fn e k ys r) ⟨fn.ntmps, initTV args, [(0, .arr e k xs), (7, .gone)]⟩) (hrn : E.rnd = none := by rfl) (hdf : E.mks = false := by rfl) (hnb : E.nb = 0 := by rfl) : ConG E f args e k xs ys r := by
 intro w M ρ vs hM hgl hdom hown hinj hblk hv;have hn := Nat.le_of_ble_eq_true hn0;have hlen := hv.length;obtain ⟨x, hx⟩ : ∃ x, ρ 0 = some x := (hblk 0 (.arr e k xs) rfl).has rfl
 have hρ0 : ∀ id y, ρ id = some y → id = 0 ∧ y = x := fun id y h => by
  obtain ⟨blk, hb⟩ := hdom id y h;have := (look0 hb).1;subst this;rw [hx] at h;exact ⟨rfl, (Option.some.inj h).symm⟩
 let ρ7 : Rho := fun id => if id = 7 then some none else ρ id
 have h70 : ρ7 0 = ρ 0 := rfl
 have h7 : ∀ id y, ρ7 id = some y → (id = 7 ∧ y = none) ∨ (id = 0 ∧ y = x) := by
  intro id y h;simp only [ρ7] at h
  split at h
  ·rename_i hi
   exact .inl ⟨hi, (Option.some.inj h).symm⟩
  ·exact .inr (hρ0 id y h)
 have hset : owned (owned M ρ) ρ7 = owned M ρ := by
  funext b
  apply propext
  constructor
  ·rintro (h | ⟨id, ow, h, rfl⟩)
   ·exact h
   ·rcases h7 id _ h with ⟨_, h'⟩ | ⟨rfl, h'⟩
    ·cases h'
    ·exact .inr ⟨0, ow, by rw [hx, h'], rfl⟩
  ·exact .inl
 have hltM : ∀ b, owned M ρ b → b < w.heap.size := by
  rintro b (h | ⟨id, ow, h, rfl⟩)
  ·exact hM b h
  ·exact (hown id ow h).1
 refine calls_of_wp hf hb ?_
 have ha : ARel (E.give x) w (owned M ρ) ⟨fn.ntmps, initTV args, [(0, .arr e k xs), (7, .gone)]⟩ { tmps := vs.toArray ++ Array.replicate (fn.ntmps - vs.toArray.size) undef, defers := [] } w := by
  refine ⟨fun _ => rfl, ?_, ρ7, ?_, Marks.nil, ?_⟩
  ·simp; omega
  ·refine ⟨BelowX.refl _ w, hltM, by rw [hset]; exact hgl, fun id y h => ?_, fun id ow ho => ?_, fun id id' ow ow' h h' _ => ?_, fun id y h => ?_, ⟨?_, Nat.le_trans (Nat.le_of_eq hnb) (Nat.zero_le _)⟩, fun id blk hb => ?_⟩
   ·rcases h7 id y h with ⟨rfl, _⟩ | ⟨rfl, _⟩
    ·exact ⟨_, rfl⟩
    ·exact ⟨_, rfl⟩
   ·rcases h7 id _ ho with ⟨_, h'⟩ | ⟨rfl, h'⟩
    ·cases h'
    ·exact ⟨.inr (give_lent.2 ⟨ow, h'.symm, rfl⟩), (hown 0 ow (by rw [hx, h'])).1⟩
   ·rcases h7 id _ h with ⟨_, q⟩ | ⟨rfl, q⟩
    ·cases q
    ·rcases h7 id' _ h' with ⟨_, q'⟩ | ⟨rfl, q'⟩
     ·cases q'
     ·rfl
   ·obtain ⟨rfl, rfl⟩ := give_look h
    rfl
   ·rintro b ⟨id, ow, h1, h2⟩;obtain ⟨_, h3⟩ := give_look h1
    cases h3
   ·simp only [lookO] at hb
    cases h0 : Nat.beq 0 id with
    | true =>
     rw [h0] at hb;have := Nat.eq_of_beq_eq_true h0;subst this
     have hb : blk = .arr e k xs := by simpa using hb.symm
     subst hb;rw [hset];exact BRel.ground rfl h70 (hblk 0 _ rfl)
    | false =>
     rw [h0] at hb;simp only [cond_false] at hb
     cases h7' : Nat.beq 7 id with
     | true =>
      rw [h7'] at hb
      have hb : blk = .gone := by simpa using hb.symm
      subst hb
      trivial
     | false => rw [h7'] at hb; cases hb
  ·intro i
   have hv' : ArgsT w (owned M ρ) ρ7 args vs := hv.rho fun id y h => by
    have := (hρ0 id y h).1;subst this;exact h
   have := initTV_rel (fn.ntmps - vs.length) hv' i;show TRel w (owned (owned M ρ) ρ7) ρ7 (initTV args i) _;rw [hset];rw [Array.getD_eq_getD_getElem?];rw [show (vs.toArray ++ Array.replicate (fn.ntmps - vs.toArray.size) undef) = (vs ++ List.replicate (fn.ntmps - vs.length) undef).toArray by simp];rw [List.getElem?_toArray];exact this
 refine wp_mono (wp_env (E := E.give x) (h w (owned M ρ) x _ w ha) hrn) ?_;rintro ex a' w' ⟨s', ha', hq⟩;have fin : (∃ t t2 id N, fn.results = #[.tmp t, .tmp t2] ∧ s'.get t2 = .g r ∧ s'.get t = .osl id k 0 N ∧ lookO s'.mem id = some (.arr e k ys) ∧ ys.length = N) → a'.defers = [] ∧ ∃ v, (results fn a'.tmps).run E.P w' = .ok v w' ∧
   (∃ u x', Ending.returned v = .returned u ∧ BelowX (fun b => ∃ id ow, ρ id = some (some ow) ∧ ow.b = b) w w' ∧
   (∀ ow, x' = some ow → ((∃ ow0, ρ 0 = some (some ow0) ∧ ow0.b = ow.b) ∨ w.heap.size ≤ ow.b) ∧ ow.b < w'.heap.size) ∧ BRel w' (MoreM M ρ x') (rho0 x') 0 (.arr e k ys) ∧ TRel w' (MoreM M ρ x') (rho0 x') (.tsl 0 k ys.length r) u) := by
  rintro ⟨t, t2, id, N, hr, hq2, hq1, hmem, rfl⟩;obtain ⟨ρf, hm, _, ht⟩ := ha'.ex;have h1 := ht t;have h2 := ht t2;rw [hq1] at h1;rw [hq2] at h2
  have hres : (results fn a'.tmps).run E.P w' = .ok (.tuple #[a'.tmps.getD t undef, a'.tmps.getD t2 undef]) w' := by
   rw [results_eq, hr]
   simp [rvSem]
  obtain ⟨x', hx'⟩ : ∃ x', ρf id = some x' := (hm.blk id _ hmem).has rfl
  have hsub : ∀ b, MoreM M ρ x' b → owned (owned M ρ) ρf b := by
   rintro b (h | ⟨ow, rfl, rfl⟩)
   ·exact .inl h
   ·exact .inr ⟨id, ow, hx', rfl⟩
  have hblk' : BRel w' (MoreM M ρ x') (rho0 x') 0 (.arr e k ys) := by
   have := (hm.blk id _ hmem).sub hsub;exact BRel.ground rfl (show rho0 x' 0 = ρf id from hx'.symm) this
  refine ⟨ha'.defers hdf, _, hres, _, x', rfl, hm.below.mono (fun b hb => ?_), fun ow ho => ?_, hblk', ?_⟩
  ·obtain ⟨ow, h3, h4⟩ := give_lent.1 hb;exact ⟨0, ow, by rw [hx, h3], h4⟩
  ·subst ho;obtain ⟨f1, f2⟩ := hm.fresh id ow hx';refine ⟨?_, f2⟩
   rcases f1 with f1 | f1
   ·exact .inr f1
   ·obtain ⟨ow0, h3, h4⟩ := give_lent.1 f1;exact .inl ⟨ow0, by rw [hx, h3], h4⟩
  ·refine ⟨_, _, rfl, r.mono h2 (fun _ _ _ => rfl) (fun b _ h => hsub b h), ?_⟩
   rcases h1 with ⟨g1, _, g2, g3⟩ | ⟨ow, g1, g2, g3, p, g4, g5⟩
   ·rw [hx'] at g1;exact .inl ⟨g1, g2, g3⟩
   ·rw [hx'] at g1;exact .inr ⟨ow, p, g1, g3, by simpa using g4, fun h => by simpa using g5 h⟩
 cases ex with
 | ret => exact fin hq
 | normal => exact fin hq
 | _ => exact hq.elim
theorem eff_callG {o : Oper} {mem : Mem} {ev : Operand → TV} {f : FuncId} {aps : Array Operand} {ts : Array TypeId} {args : List TV} {e : TypeId} {k : Nat} {xs ys : List (List G)} {r : G} (c : Nat) (ho : o.op = .call ⟨.value (.func f), aps, ts⟩)
  (hk : Known E.P f) (hev : ev (.func f) = .g (.lit (.func (.func f) #[] #[]))) (hc : ConG E f args e k xs ys r) (ha : aps.toList.map (fun x => some (ev x)) = args.map (renT [(0, c)])) (hl : lookO mem c = some (.arr e k xs))
  (hrefs : ∀ i blk, lookO mem i = some blk → i ≠ c → blk.noref (some c) = true) (hbw : lookO E.bow c = none) :
  EffW E o mem ev (.tsl c k ys.length r) ((c, .arr e k ys) :: mem) (some c) := by
 intro w0 M0 ρ w e' hm hx;obtain ⟨fn, h1, h2, h3⟩ := hk
 have hef : e' (.func f) = .func (.func f) #[] #[] := by
  have := hx (.func f) (by rw [ho]; simp [Op.operands, Call.operands]);rw [hev] at this;exact this
 have hres : (execOp e' o).run E.P w = .ok (.enter f (aps.toList.map e').toArray) w := by
  simp [execOp, ho, resolve, hef, Deferred.ofValue, invoke, run_callFunc h1 h2 h3, ← Array.toList_map]
 rw [hres]
 let ρc : Rho := fun p => if p = 0 then ρ c else none
 have hρ0 : ρc 0 = ρ c := by simp [ρc]
 have hρc' : ∀ p x, ρc p = some x → p = 0 ∧ ρ c = some x := by
  intro p x h;simp only [ρc] at h
  split at h
  ·exact ⟨by assumption, h⟩
  ·cases h
 let M : Nat → Prop := fun b => owned M0 ρ b ∧ ¬ ∃ ow, ρ c = some (some ow) ∧ ow.b = b
 have hown : owned M ρc = owned M0 ρ := by
  funext b
  apply propext
  constructor
  ·rintro (h | ⟨p, o, h, rfl⟩)
   ·exact h.1
   ·exact .inr ⟨c, o, (hρc' p _ h).2, rfl⟩
  ·intro h
   by_cases hb : ∃ ow, ρ c = some (some ow) ∧ ow.b = b
   ·obtain ⟨ow, h1, h2⟩ := hb; exact .inr ⟨0, ow, hρ0.trans h1, h2⟩
   ·exact .inl ⟨h, hb⟩
 have hcall := hc w M ρc (aps.toList.map e') (fun b h => hm.lt b h.1) (by rw [hown]; exact hm.glob)
  (fun p x h => by
   have := (hρc' p x h).1;subst this
   exact ⟨_, rfl⟩)
  (fun p ow h => by
   have c2 := (hρc' p _ h).2
   exact ⟨(hm.fresh c ow c2).2, fun hM => hM.2 ⟨ow, c2, rfl⟩⟩)
  (fun p q ow ow' h1 h2 _ => (hρc' p _ h1).1.trans (hρc' q _ h2).1.symm)
  (fun p blk h => by
   obtain ⟨rfl, rfl⟩ := look0 h;rw [hown]
   exact BRel.ground rfl hρ0 (hm.blk c _ hl))
  (by
   rw [hown];refine args_ren (σ := [(0, c)]) (ρc := ρc) (fun p q hpq => ?_) (fun x hx' => hx x (by rw [ho]; simp [Op.operands, Call.operands]; exact .inr (by simpa using hx'))) ha;obtain ⟨rfl, rfl⟩ := look0 hpq
   exact hρ0)
 refine hcall.mono ?_;rintro ex w' ⟨v, x', rfl, hb, hnew, hblk, hr⟩
 have hMM : ∀ b, owned M0 (rhoSet ρ c x') b → MoreM M ρc x' b := by
  rintro b (h | ⟨id, ow, h, rfl⟩)
  ·exact .inl (by rw [hown]; exact .inl h)
  ·by_cases hi : id = c
   ·subst hi;rw [rhoSet_same] at h;exact .inr ⟨ow, Option.some.inj h, rfl⟩
   ·exact .inl (by rw [hown]; exact .inr ⟨id, ow, by simpa [rhoSet, hi] using h, rfl⟩)
 have e0 : rhoSet ρ c x' c = rho0 x' 0 := by rw [rhoSet_same]; rfl
 obtain ⟨n1, n2⟩ := mrel_upd (id := c) (x := x') (blk' := .arr e k ys) (some c) hm ⟨hb.os, hb.tape, hb.output, hb.size, fun b hlt hno => hb.block b hlt (by
   rintro ⟨p, ow, h, rfl⟩
   exact hno ow (hρc' p _ h).2 rfl)⟩ (fun ow ho => by
   obtain ⟨f1, f2⟩ := hnew ow ho;refine ⟨?_, f2⟩
   rcases f1 with ⟨ow0, g1, g2⟩ | f1
   ·exact .inr ⟨ow0, (hρc' 0 _ g1).2, g2⟩
   ·exact .inl f1) (.inl rfl) hrefs (.inr hbw) (BRel.ground rfl e0 (hblk.sub hMM))
 obtain ⟨sv, z, rfl, hz, hs⟩ := hr;refine ⟨_, rfl, _, n1, n2, sv, z, rfl, r.mono hz (fun _ _ _ => rfl) (fun b _ h => hMM b h), ?_⟩
 rcases hs with ⟨g1, g2⟩ | ⟨ow, p, g1, g2⟩
 ·exact .inl ⟨e0.trans g1, g2⟩
 ·exact .inr ⟨ow, p, e0.trans g1, g2⟩
theorem eff_callGL {α : Type} {o : Oper} {mem : Mem} {ev : Operand → TV} {f : FuncId} {aps : Array Operand} {ts : Array TypeId} {args : List TV} {e : TypeId} {k : Nat} {f0 : α → List G} {l l' : List α} {r : G} (c : Nat) (ho : o.op = .call ⟨.value (.func f), aps, ts⟩)
  (hk : Known E.P f) (hev : ev (.func f) = .g (.lit (.func (.func f) #[] #[]))) (hc : ConG E f args e k (l.map f0) (l'.map f0) r) (ha : aps.toList.map (fun x => some (ev x)) = args.map (renT [(0, c)])) (hl : lookO mem c = some (.arr e k (l.map f0)))
  (hrefs : ∀ i blk, lookO mem i = some blk → i ≠ c → blk.noref (some c) = true) (hbw : lookO E.bow c = none) :
  EffW E o mem ev (.tsl c k l'.length r) ((c, .arr e k (l'.map f0)) :: mem) (some c) := by
 have := eff_callG c ho hk hev hc ha hl hrefs hbw
 rwa [List.length_map] at this
theorem eff_extractG0 {o : Oper} {ev : Operand → TV} {x : Operand} {id k hi : Nat} {r : G} (ho : o.op = .extract x 0) (hx : ev x = .tsl id k hi r) (mem : Mem) : Eff E o mem ev (.osl id k 0 hi) :=
 eff_same (fun w M ρ e hev => by
  have h1 := hev x (by rw [ho]; simp [Op.operands]);rw [hx] at h1;obtain ⟨sv, z, h2, h3, h4⟩ := h1;refine ⟨sv, by simp [execOp, ho, h2, Instr.extract], ?_⟩
  rcases h4 with ⟨g1, g2, g3⟩ | ⟨ow, p, g1, g2, g3, g4⟩
  ·exact .inl ⟨g1, rfl, g2, g3⟩
  ·exact .inr ⟨ow, g1, Nat.zero_le _, g2, p, by simpa using g3, fun h => by simpa using g4 h⟩) mem
theorem eff_extractG1 {o : Oper} {ev : Operand → TV} {x : Operand} {id k hi : Nat} {r : G} (ho : o.op = .extract x 1) (hx : ev x = .tsl id k hi r) (mem : Mem) : Eff E o mem ev (.g r) :=
 eff_same (fun w M ρ e hev => by
  have h1 := hev x (by rw [ho]; simp [Op.operands]);rw [hx] at h1;obtain ⟨sv, z, h2, h3, h4⟩ := h1
  exact ⟨z, by simp [execOp, ho, h2, Instr.extract], h3⟩) mem
theorem eff_moveG {o : Oper} {ev : Operand → TV} {x : Operand} {id k hi : Nat} {r : G} (ho : o.op = .move x) (h : ev x = .tsl id k hi r) (mem : Mem) : Eff E o mem ev (.tsl id k hi r) := eff_move ho h mem
end
end Go.Sim
