import Derived.Test.YtnnjjblgilibgaaGreatVqC
import Derived.Tactics
import Derived.Tactics2
import Derived.Defers
import Derived.Recover
import Derived.Laws.Pointers
/- Contract: why a call may not be, told by a panic that is recovered. -/
namespace Go.Proofs.YtnnjjblgilibgaaGreatV
open Go Go.RowKit
set_option linter.unusedVariables false
set_option linter.unusedSimpArgs false
set_option maxRecDepth 100000
set_option maxHeartbeats 40000000
theorem fine34 : Fine Tryz.prog 34 := fun _ _ => by kernel_rfl
theorem alloc_size (w : World) (o : Obj) : (w.alloc o).heap.size = w.heap.size + 1 := by
  unfold World.alloc
  exact Array.size_push ..
theorem Shape.core (f l k s m : Int) (i : Bool) (ds xs ws : List (Int × Int)) (res : Int) (hh : (Ok Tryz.prog 69 [.sl 2 (whyR f l k s m i ds xs ws)] (.tup []) ∧ res = 0) ∨ OkP Tryz.prog 69 [.sl 2 (whyR f l k s m i ds xs ws)] (.iface 102 (.int .i64 res))) :
    Ok Tryz.prog 34 [.sl 2 (cxRows ds), .sl 2 (cxRows xs), .sl 2 (cxRows ws), plV f l k s m i] (.int res) := by
  refine ⟨fine34, fun w N vs hN hl hr => ?_⟩
  match vs, hl with
  | [vd, vx, vw, vp], _ =>
  have rd : Rep w (fun _ => none) N (.sl 2 (cxRows ds)) vd := hr 0 _ rfl
  have rx : Rep w (fun _ => none) N (.sl 2 (cxRows xs)) vx := hr 1 _ rfl
  have rw' : Rep w (fun _ => none) N (.sl 2 (cxRows ws)) vw := hr 2 _ rfl
  have rp : Rep w (fun _ => none) N (plV f l k s m i) vp := hr 3 _ rfl
  obtain rfl : vp = .agg #[.int .i64 f, .int .i64 l, .int .i64 k, .int .i64 s, .int .i64 m, .bool i] := eq_toV rp rfl
  clear hr rp
  have hmf : ∀ (fn : Fn) (first cap : Array Value) (w : World), (Instr.makeFunc fn first cap).run Tryz.prog w = .ok (.func fn first cap) w := fun _ _ _ _ => rfl
  go_enter_defers Tryz.func34, Tryz.ntmps34
  go_wp2_with (fail)
  generalize hW : (w.alloc (Obj.cells #[Value.int IntKind.i64 f, Value.int IntKind.i64 l, Value.int IntKind.i64 k, Value.int IntKind.i64 s, Value.int IntKind.i64 m, Value.bool i] 24)).alloc (Obj.cells #[Value.int IntKind.i64 0] 28) = W at *
  have hb : Below w.heap.size w W := by
    rw [← hW]
    exact ((Below.refl _ w).alloc (Nat.le_refl _) _).alloc (by rw [alloc_size]; omega) _
  have hsz : W.heap.size = w.heap.size + 2 := by rw [← hW, alloc_size, alloc_size]
  have h8 : W.heap[w.heap.size + 1]? = some (.cells #[.int .i64 0] 28) := by
    rw [← hW]
    have := heap_alloc_new (w.alloc (Obj.cells #[Value.int IntKind.i64 f, Value.int IntKind.i64 l, Value.int IntKind.i64 k, Value.int IntKind.i64 s, Value.int IntKind.i64 m, Value.bool i] 24)) (Obj.cells #[Value.int IntKind.i64 0] 28)
    rw [show (w.alloc (Obj.cells #[Value.int IntKind.i64 f, Value.int IntKind.i64 l, Value.int IntKind.i64 k, Value.int IntKind.i64 s, Value.int IntKind.i64 m, Value.bool i] 24)).heap.size = w.heap.size + 1 from alloc_size _ _] at this
    exact this
  clear hW
  refine ((whys.ok f l k s m i ds xs ws).2 W N [vd, vx, vw, _] (fun b h => by have := hN b h; omega) rfl (fun j x hx => ?_)).mono ?_
  · match j, hx with
    | 0, hx => cases hx; exact rd.keep hb hN
    | 1, hx => cases hx; exact rx.keep hb hN
    | 2, hx => cases hx; exact rw'.keep hb hN
    | 3, hx => cases hx; exact rep_toV (plV f l k s m i) rfl
    | j + 4, hx => simp at hx
  rintro e w3 ⟨v, rfl, hb3, hr3⟩
  dsimp only
  go_wp2_with (fail)
  have hN3 : ∀ b, (N b ∨ W.heap.size ≤ b ∧ b < w3.heap.size) → b < w3.heap.size := fun b h => by
    rcases h with h | h
    · have := hN b h
      have := hb3.size
      omega
    · exact h.2
  have h83 : w3.heap[w.heap.size + 1]? = some (.cells #[.int .i64 0] 28) := (hb3.block _ (by omega)).trans h8
  have hs3 := hb3.size
  rcases hh with ⟨hok, rfl⟩ | hpan
  · refine (hok.2 w3 _ [v] hN3 rfl (fun j x hx => ?_)).mono ?_
    · match j, hx with
      | 0, hx => cases hx; exact hr3
      | j + 1, hx => simp at hx
    rintro e w5 ⟨v5, rfl, hb5, hr5⟩
    have h85 : w5.heap[w.heap.size + 1]? = some (.cells #[.int .i64 0] 28) := (hb5.block _ (by omega)).trans h83
    have hc5 : w5.cell? ⟨w.heap.size + 1, 0, none⟩ = some (.int .i64 0) := by simp [World.cell?, h85]
    have hbb : Below w.heap.size w w5 := (hb.trans (hb3.mono (by omega))).trans (hb5.mono (by omega))
    have hz5 : w5.frozen? ⟨w.heap.size + 1, 0, none⟩ = false := by simp [World.frozen?, h85]
    dsimp only
    go_wp2_with (fail)
    have hs6 := World.cell?_setCell_same w5 _ (.int .i64 0) hc5
    have hb6 := hbb.setCell (p := ⟨w.heap.size + 1, 0, none⟩) (by show w.heap.size ≤ w.heap.size + 1; omega) (.int .i64 0)
    refine leaves_cons (f := 68) (args := #[.pointer (some ⟨w.heap.size + 1, 0, none⟩)]) (by simp) (by simp [go_sem]) ?_
    refine (catch_idle ⟨w.heap.size + 1, 0, none⟩ _).mono ?_
    rintro e u' w'' ⟨rfl, rfl, rfl⟩
    simp [Leaves, settle, results, Tryz.results34, go_sem, hs6]
    exact ⟨hb6, .raw _⟩
  · refine (hpan.2 w3 _ [v] hN3 rfl (fun j x hx => ?_)).mono ?_
    · match j, hx with
      | 0, hx => cases hx; exact hr3
      | j + 1, hx => simp at hx
    rintro e w5 ⟨rfl, hb5⟩
    have h85 : w5.heap[w.heap.size + 1]? = some (.cells #[.int .i64 0] 28) := (hb5.block _ (by omega)).trans h83
    have hc5 : w5.cell? ⟨w.heap.size + 1, 0, none⟩ = some (.int .i64 0) := by simp [World.cell?, h85]
    have hbb : Below w.heap.size w w5 := (hb.trans (hb3.mono (by omega))).trans (hb5.mono (by omega))
    have hz5 : w5.frozen? ⟨w.heap.size + 1, 0, none⟩ = false := by simp [World.frozen?, h85]
    dsimp only
    refine leaves_cons (f := 68) (args := #[.pointer (some ⟨w.heap.size + 1, 0, none⟩)]) (by simp) (by simp [go_sem]) ?_
    refine (catch_stop ⟨w.heap.size + 1, 0, none⟩ 0 res [] w5 hc5 hz5).mono ?_
    rintro e u' w'' ⟨rfl, rfl, rfl⟩
    have hs6 := World.cell?_setCell_same w5 _ (.int .i64 res) hc5
    have hb6 := hbb.setCell (p := ⟨w.heap.size + 1, 0, none⟩) (by show w.heap.size ≤ w.heap.size + 1; omega) (.int .i64 res)
    simp [Leaves, settle, results, Tryz.results34, go_sem, hs6]
    exact ⟨hb6, .raw _⟩
end Go.Proofs.YtnnjjblgilibgaaGreatV
