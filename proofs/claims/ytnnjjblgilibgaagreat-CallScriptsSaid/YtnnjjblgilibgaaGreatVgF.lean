import Derived.Test.YtnnjjblgilibgaaGreatVgB
import Derived.Test.YtnnjjblgilibgaaGreatVgA
import Derived.Test.YtnnjjblgilibgaaGreatVgC
/- Contracts: arcs; the steps' angles; turns by shifts. -/
namespace Go.Proofs.YtnnjjblgilibgaaGreatV
open Go Go.RowKit
set_option linter.unusedVariables false
set_option linter.unusedSimpArgs false
set_option maxRecDepth 100000
set_option maxHeartbeats 40000000
theorem fine186 : Fine Tryz.prog 186 := fun _ _ => by kernel_rfl
theorem fine188 : Fine Tryz.prog 188 := fun _ _ => by kernel_rfl
theorem fine182 : Fine Tryz.prog 182 := fun _ _ => by kernel_rfl
theorem fine190 : Fine Tryz.prog 190 := fun _ _ => by kernel_rfl
theorem fine177 : Fine Tryz.prog 177 := fun _ _ => by kernel_rfl
theorem fine187 : Fine Tryz.prog 187 := fun _ _ => by kernel_rfl
theorem fine184 : Fine Tryz.prog 184 := fun _ _ => by kernel_rfl
theorem fine180 : Fine Tryz.prog 180 := fun _ _ => by kernel_rfl
theorem fine185 : Fine Tryz.prog 185 := fun _ _ => by kernel_rfl
theorem fine181 : Fine Tryz.prog 181 := fun _ _ => by kernel_rfl
theorem w64 (x : Int) : IntKind.i64.wrap x = wrap64 x := by rw [IntKind.wrap_i64]; unfold wrap64; rfl
theorem seq_mono1 {α : Type} {F : Fence} {n : Nat} {P : Program} {g : Nat} {lb : Array Value} {encs : α → Array Value} {Kp Kp' : World → World → Prop} {S Sp : List α → Prop} {N : Nat} {w : World} (h : SeqStopsK F n P g lb encs Kp S Sp N w) (hk : ∀ A B, Kp' A B → Kp A B) : SeqStopsK F n P g lb encs Kp' S Sp N w :=
  fun l J Jx W hW hJ hJx hY h0 => h l J Jx W hW hJ hJx (fun pre x W1 hj hl => by
    obtain ⟨fn, tmps, asg, body, hy, hR⟩ := hY pre x W1 hj hl
    exact ⟨fn, tmps, asg, body, hy, hR.mono fun e W' he => he.imp (fun q => ⟨q.1, q.2.1, hk _ _ q.2.2⟩) id⟩) h0
theorem rep_box1' {w : World} {N : Nat → Prop} {z : Int} {v : Value} (h : Rep w (fun _ => none) N (.box [.int z] 0) v) : ∃ b o, v = .pointer (some ⟨b, o, none⟩) ∧ N b ∧ w.cell? ⟨b, o, none⟩ = some (.int .i64 z) := by
  cases h with
  | box _ _ b o cell hN hw hr =>
    refine ⟨b, o, rfl, hN, ?_⟩
    have h1 := hw 0 (by simp)
    have h2 := (hr 0 _ rfl).of_raw
    rw [h2] at h1
    exact h1
theorem terms.ok (n : Int) : Ok Tryz.prog 186 [.int n] (.fn 188 [.box [.int n] 0]) := by
  refine ok_of (X := fun _ => []) (Z := fun _ => false) (res := [ResultVar.tmp 2]) tok follows Tryz.func186 rfl rfl fine186 (by kernel_rfl) (by kernel_rfl) ?_
  simp only [evA, evT, evD, seval]
theorem terms.seq {n : Int} (hn : 2 ≤ n) (hn2 : n ≤ 17592186044416) : OkSeq Tryz.prog 188 [.box [.int n] 0] (fun x : Int => [.int x]) (atake n (acount n)) (acount n) := by
  refine ⟨fine188, fun _ => rfl, fun w N vs hN hl hr m hm => ?_⟩
  match vs, hl with
  | [v0], _ =>
    obtain ⟨A, o1, rfl, hA, ha⟩ := rep_box1' (hr 0 _ rfl)
    exact seq_mono1 (arc_terms.stops m hm n hn hn2 A o1 w ha) fun W W' hkp v hv => (World.cell?_of_block (w := W) (w' := W') (a := ⟨A, o1, none⟩) (hkp A hA)).trans hv
def arcV (n : Int) : Int := asumTo n (acount n)
def fS64 (l : List Int) : Int := l.foldl (fun s x => wrap64 (s + x)) 0
theorem fS64_snoc (l : List Int) (x : Int) : fS64 (l ++ [x]) = wrap64 (fS64 l + x) := by
  unfold fS64
  rw [List.foldl_append]
  rfl
theorem sum.ok (n : Int) (hn : 2 ≤ n) (hn2 : n ≤ 17592186044416) : Ok Tryz.prog 182 [.int n] (.int (arcV n)) := by
  refine ok_of (X := fun _ => []) (Z := fun _ => false) (res := [ResultVar.tmp 2]) tok follows Tryz.func182 rfl rfl fine182 (by kernel_rfl) (by kernel_rfl) ?_
  simp only [evA, evB, evT, evD, seval]
  refine call_ok (terms.ok n) rfl ?_
  simp only [evA, evB, evT, evD, seval]
  refine .inl ⟨rfl, .inl ⟨Int, fun x => [.int x], atake n (acount n), [(3, .loc 0 0), (6, .fn 188 [.box [.int n] 0])], fun pre => [(0, some (.box [.int (fS64 pre)]))], 1, 1, _, _, _, rfl, rfl, terms.seq hn hn2, fun _ => rfl, rfl, rfl, fun _ => rfl, ?_, fun pre x _ => ?_, ?_⟩⟩
  · refine weak_of (fun l => l) rfl ?_ ?_
    all_goals simp only [evA, evB, evT, evD, seval, LB.ren, LB.lt]
    exact .inl rfl
  · simp only [evA, evB, evT, evD, seval]
    refine weak_of (fun l => l) rfl ?_ ?_
    all_goals simp only [evA, evB, evT, evD, seval, LB.ren, LB.lt, fS64_snoc, w64]
  · simp only [evA, evB, evT, evD, seval]
    rfl
theorem Arc.ok (n : Int) (hn : 2 ≤ n) (hn2 : n ≤ 17592186044416) : Ok Tryz.prog 190 [.int n] (.tup [.int (arcV n), .int 0]) := by
  have h1 : ¬ n < 2 := by omega
  have h2 : ¬ 17592186044416 < n := by omega
  refine ok_of (X := fun _ => []) (Z := fun _ => false) (res := [ResultVar.tmp 2, ResultVar.tmp 3]) tok follows Tryz.func190 rfl rfl fine190 (by kernel_rfl) (by kernel_rfl) ?_
  simp only [evA, evT, evD, seval, h1, h2]
  refine call_ok (sum.ok n hn hn2) rfl ?_
  simp only [evA, evT, evD, seval]
def quarterV : Int := wrap64 (arcV 2 + arcV 3)
theorem Quarter0.ok : Ok Tryz.prog 177 [] (.int quarterV) := by
  refine ok_of (X := fun _ => []) (Z := fun _ => false) (res := [ResultVar.tmp 0]) tok follows Tryz.func177 rfl rfl fine177 (by kernel_rfl) (by kernel_rfl) ?_
  simp only [evA, evT, evD, seval]
  refine call_ok (sum.ok 2 (by decide) (by decide)) rfl ?_
  simp only [evA, evT, evD, seval]
  refine call_ok (sum.ok 3 (by decide) (by decide)) rfl ?_
  simp only [evA, evT, evD, seval, w64, quarterV]
/-- A step's angle. -/
def angV (i : Nat) : Int := if i = 0 then quarterV else arcV (2 ^ i)
def angC (i : Nat) : List AV := (List.range 45).map fun j => if j < i then .int (angV j) else .int 0
theorem angC_len {i : Nat} : (angC i).length = 45 := by simp [angC]
theorem angC_set {i : Nat} (h : i < 45) : (angC i).set i (.int (angV i)) = angC (i + 1) := by
  refine List.ext_getElem (by simp [angC]) fun j h1 h2 => ?_
  rw [List.getElem_set]
  simp only [angC, List.getElem_map, List.getElem_range]
  by_cases h : i = j
  · subst h
    simp
  · rw [if_neg h]
    by_cases hj : j < i
    · rw [if_pos hj, if_pos (by omega)]
    · rw [if_neg hj, if_neg (by omega)]
theorem angC_get {i : Nat} (h : i < 45) : (angC 45).getD i .any = .int (angV i) := by
  rw [List.getD_eq_getElem?_getD, List.getElem?_eq_getElem (by rw [angC_len]; exact h)]
  simp [angC, h]
theorem angC_all (p : AV → Prop) (h : ∀ z : Int, p (.int z)) {i : Nat} : ∀ x ∈ angC i, p x := by
  intro x hx
  obtain ⟨j, _, rfl⟩ := List.mem_map.1 hx
  split <;> exact h _
theorem allOne_of : ∀ (l : List AV), (∀ x ∈ l, x.one = true) → allOne l = true
  | [], _ => rfl
  | x :: r, h => by
    show (x.one && allOne r) = true
    rw [h x (by simp), allOne_of r fun y hy => h y (by simp [hy])]
    rfl
theorem allFree_of : ∀ (l : List AV), (∀ x ∈ l, x.free = true) → allFree l = true
  | [], _ => rfl
  | x :: r, h => by
    show (x.free && allFree r) = true
    rw [h x (by simp), allFree_of r fun y hy => h y (by simp [hy])]
    rfl
theorem allPure_of : ∀ (l : List AV), (∀ x ∈ l, x.pure = true) → allPure l = true
  | [], _ => rfl
  | x :: r, h => by
    show (x.pure && allPure r) = true
    rw [h x (by simp), allPure_of r fun y hy => h y (by simp [hy])]
    rfl
theorem angC_one {i : Nat} : allOne (angC i) = true := allOne_of _ (angC_all (fun x => x.one = true) fun _ => rfl)
theorem angC_free {i : Nat} : allFree (angC i) = true := allFree_of _ (angC_all (fun x => x.free = true) fun _ => rfl)
theorem angC_pure {i : Nat} : allPure (angC i) = true := allPure_of _ (angC_all (fun x => x.pure = true) fun _ => rfl)
theorem angC_snap {lb : Nat → Option LB} {i : Nat} : (angC i).map (snap lb 5) = angC i := by
  have : ∀ x ∈ angC i, snap lb 5 x = id x := angC_all _ fun _ => rfl
  rw [List.map_congr_left this, List.map_id]
theorem setCells_take : ∀ (xs l : List AV) (o : Nat), o + xs.length = l.length → setCells l o xs = l.take o ++ xs
  | [], l, o, h => by
    rw [setCells, List.append_nil, List.take_of_length_le (by simp at h; omega)]
  | x :: xs, l, o, h => by
    simp only [List.length_cons] at h
    rw [setCells, setCells_take xs (l.set o x) (o + 1) (by simp; omega), List.take_succ_eq_append_getElem (by simp; omega), List.take_set, List.set_eq_of_length_le (by simp; omega)]
    simp
theorem angC_over {l : List AV} (h : l.length = 45) {i : Nat} : setCells l 0 (angC i) = angC i := by
  rw [setCells_take _ _ _ (by rw [angC_len, h])]
  rfl
theorem angC_take {i : Nat} : (angC i).take 45 = angC i := List.take_of_length_le (by rw [angC_len]; exact Nat.le_refl _)
theorem sh1 {i : Nat} (h : i ≤ 44) : IntKind.i64.wrap (1 * 2 ^ min i IntKind.i64.bits) = 2 ^ i := by
  have e : min i IntKind.i64.bits = i := by
    have : IntKind.i64.bits = 64 := rfl
    omega
  rw [e, Int.one_mul, pow_wr (by omega)]
theorem angles.ok : Ok Tryz.prog 187 [] (.agg (angC 45)) := by
  refine ok_of (X := fun _ => []) (Z := fun _ => false) (res := [ResultVar.cell 0 209]) tok follows Tryz.func187 rfl rfl fine187 (by kernel_rfl) (by kernel_rfl) ?_
  simp only [evA, evT, evD, seval]
  refine call_ok Quarter0.ok rfl ?_
  simp only [evA, evT, evD, seval]
  refine l_inv (fun i => ⟨[(2, .int (i + 1 : Nat)), (1, .loc 1 0), (0, .loc 0 0)], [(1, some (.box (angC (i + 1)))), (0, some (.box (List.replicate 45 (.int 0))))], 2⟩) 44 ?_ (fun i hi K hK => ?_) (fun K => ?_)
  · refine weak_of (fun l => l) rfl ?_ ?_
    · refine ⟨⟨rfl, .inl ⟨rfl, angC_free⟩, rfl⟩, ⟨rfl, .inl ⟨rfl, rfl⟩, rfl⟩, trivial⟩
    · simp only [evA, evB, evT, evD, seval]
  · have h1 : ((i + 1 : Nat) : Int) < 45 := by omega
    have h2 : (0 : Int) ≤ ((i + 1 : Nat) : Int) := by omega
    have h3 : IntKind.i64.wrap (((i + 1 : Nat) : Int) + 1) = ((i + 1 + 1 : Nat) : Int) := by rw [wr (by omega)]; omega
    have h4 : i + 1 + 1 ≤ 45 := by omega
    have hp1 : (2 : Int) ^ (i + 1) ≤ 2 ^ 44 := pow_le (by omega)
    have hp2 : (2 : Int) ^ 1 ≤ 2 ^ (i + 1) := pow_le (by omega)
    have he : arcV (2 ^ (i + 1)) = angV (i + 1) := by unfold angV; rw [if_neg (by omega)]
    simp only [evA, evT, evD, seval, h1, h2, Int.toNat_natCast, sh1 (show i + 1 ≤ 44 by omega)]
    refine call_ok (Arc.ok (2 ^ (i + 1)) (by omega) (by omega)) rfl ?_
    simp only [evA, evT, evD, seval, h1, h2, h3, h4, Int.toNat_natCast, angC_len, he, angC_set (show i + 1 < 45 by omega)]
    refine hK _ (weak_of (fun l => l) rfl ?_ ?_)
    all_goals simp only [evA, evB, evT, evD, seval, angC_free]
  · simp only [evA, evT, evD, seval, angC_len, angC_take, angC_one, angC_over, angC_snap, List.length_replicate]
/-- A step of a turn. -/
def stV (i : Nat) (ang : Int) (p : Int × Int × Int) : Int × Int × Int :=
  if 0 ≤ p.2.2 then (wrap64 (p.1 - p.2.1 / 2 ^ i), wrap64 (p.2.1 + p.1 / 2 ^ i), wrap64 (p.2.2 - ang)) else (wrap64 (p.1 + p.2.1 / 2 ^ i), wrap64 (p.2.1 - p.1 / 2 ^ i), wrap64 (p.2.2 + ang))
def runV (x z : Int) : Nat → Int × Int × Int
  | 0 => (x, 0, z)
  | i + 1 => stV i (angV i) (runV x z i)
theorem fd {x : Int} {i : Nat} (h : i ≤ 62) : x.fdiv (2 ^ min i IntKind.i64.bits) = x / 2 ^ i := by
  have e : min i IntKind.i64.bits = i := by
    have : IntKind.i64.bits = 64 := rfl
    omega
  rw [e, Int.fdiv_eq_ediv_of_nonneg _ (by have := pow_pos i; omega)]
theorem run.ok (x z : Int) : Ok Tryz.prog 184 [.int x, .int z] (.tup [cxA (runV x z 45).1 (runV x z 45).2.1, .int (runV x z 45).2.2]) := by
  refine ok_of (X := fun _ => []) (Z := fun _ => false) (res := [ResultVar.cell 4 43, ResultVar.tmp 5]) tok follows Tryz.func184 rfl rfl fine184 (by kernel_rfl) (by kernel_rfl) ?_
  simp only [evA, evT, evD, seval]
  refine call_ok angles.ok (by simp only [evA, evT, evD, seval, angC_pure]) ?_
  simp only [evA, evT, evD, seval]
  refine l_inv (fun i => ⟨[(14, .int i), (13, .agg (angC 45)), (1, .int (runV x z i).2.2), (6, .loc 1 0), (4, .loc 0 0)], [(1, some (.box [.int (runV x z i).1, .int (runV x z i).2.1])), (0, some (.box [.int 0, .int 0]))], 2⟩) 45 ?_ (fun i hi K hK => ?_) (fun K => ?_)
  · refine weak_of (fun l => l) rfl ?_ ?_
    all_goals simp only [evA, evB, evT, evD, seval, angC_free, runV, Int.natCast_zero]
  · have h1 : (i : Int) < 45 := by omega
    have h2 : (0 : Int) ≤ (i : Int) := by omega
    have h3 : IntKind.i64.wrap ((i : Int) + 1) = ((i + 1 : Nat) : Int) := by rw [wr (by omega)]; omega
    have h4 : i < 45 := hi
    have hf : ∀ y : Int, y.fdiv (2 ^ min i IntKind.i64.bits) = y / 2 ^ i := fun y => fd (by omega)
    simp only [evA, evT, evD, seval, h1, h2, h3, h4, Int.toNat_natCast, angC_len, angC_get hi, hf]
    by_cases hz : 0 ≤ (runV x z i).2.2
    · have e : runV x z (i + 1) = (wrap64 ((runV x z i).1 - (runV x z i).2.1 / 2 ^ i), wrap64 ((runV x z i).2.1 + (runV x z i).1 / 2 ^ i), wrap64 ((runV x z i).2.2 - angV i)) := by
        show stV i (angV i) (runV x z i) = _
        unfold stV
        rw [if_pos hz]
      simp only [evA, evT, evD, seval, hz, h3]
      refine hK _ (weak_of (fun l => l) rfl ?_ ?_)
      all_goals simp only [evA, evB, evT, evD, seval, angC_free, e, w64]
    · have e : runV x z (i + 1) = (wrap64 ((runV x z i).1 + (runV x z i).2.1 / 2 ^ i), wrap64 ((runV x z i).2.1 - (runV x z i).1 / 2 ^ i), wrap64 ((runV x z i).2.2 + angV i)) := by
        show stV i (angV i) (runV x z i) = _
        unfold stV
        rw [if_neg hz]
      simp only [evA, evT, evD, seval, hz, h3]
      refine hK _ (weak_of (fun l => l) rfl ?_ ?_)
      all_goals simp only [evA, evB, evT, evD, seval, angC_free, e, w64]
  · simp only [evA, evT, evD, seval]
theorem gRun.ok (x z : Int) (hx : 0 ≤ x ∧ x ≤ 144115188075855872) (hz : -72057594037927936 ≤ z ∧ z ≤ 72057594037927936) : Ok Tryz.prog 180 [.int x, .int z] (.tup [cxA (runV x z 45).1 (runV x z 45).2.1, .int (runV x z 45).2.2, .int 0]) := by
  have h1 : ¬ x < 0 := by omega
  have h2 : ¬ 144115188075855872 < x := by omega
  have h3 : ¬ z < -72057594037927936 := by omega
  have h4 : ¬ 72057594037927936 < z := by omega
  refine ok_of (X := fun _ => []) (Z := fun _ => false) (res := [ResultVar.cell 4 43, ResultVar.tmp 5, ResultVar.tmp 6]) tok follows Tryz.func180 rfl rfl fine180 (by kernel_rfl) (by kernel_rfl) ?_
  simp only [evA, evT, evD, seval, h1, h2, h3, h4]
  refine call_ok (run.ok x z) rfl ?_
  simp only [evA, evT, evD, seval]
def gainV : Int := (runV 72057594037927936 0 45).1
theorem Gain0.ok : Ok Tryz.prog 185 [] (.int gainV) := by
  refine ok_of (X := fun _ => []) (Z := fun _ => false) (res := [ResultVar.tmp 0]) tok follows Tryz.func185 rfl rfl fine185 (by kernel_rfl) (by kernel_rfl) ?_
  simp only [evA, evT, evD, seval]
  refine call_ok (run.ok _ _) rfl ?_
  simp only [evA, evT, evD, seval, gainV]
theorem shl1 {x : Int} : IntKind.i64.wrap (x * 2 ^ min 1 IntKind.i64.bits) = wrap64 (2 * x) := by
  rw [show min 1 IntKind.i64.bits = 1 from rfl, Int.pow_succ, Int.pow_zero, Int.one_mul, w64, Int.mul_comm]
/-- What is left of a quotient, and it, bit by bit. -/
def invS (g : Int) : Nat → Int × Int
  | 0 => (72057594037927936, 0)
  | i + 1 => if g ≤ wrap64 (2 * (invS g i).1) then (wrap64 (wrap64 (2 * (invS g i).1) - g), Go.bits .or .i64 (wrap64 (2 * (invS g i).2)) 1) else (wrap64 (2 * (invS g i).1), wrap64 (2 * (invS g i).2))
def invV : Int := (invS gainV 56).2
theorem Inverse0.ok : Ok Tryz.prog 181 [] (.int invV) := by
  refine ok_of (X := fun _ => []) (Z := fun _ => false) (res := [ResultVar.tmp 0]) tok follows Tryz.func181 rfl rfl fine181 (by kernel_rfl) (by kernel_rfl) ?_
  simp only [evA, evT, evD, seval]
  refine call_ok Gain0.ok rfl ?_
  simp only [evA, evT, evD, seval]
  refine l_inv (fun i => ⟨[(5, .int i), (2, .loc 0 0), (1, .int gainV)], [(0, some (.box [.int (invS gainV i).1, .int (invS gainV i).2]))], 1⟩) 56 ?_ (fun i hi K hK => ?_) (fun K => ?_)
  · refine weak_of (fun l => l) rfl ?_ ?_
    all_goals simp only [evA, evB, evT, evD, seval, invS, Int.natCast_zero]
  · have h1 : (i : Int) < 56 := by omega
    have h3 : IntKind.i64.wrap ((i : Int) + 1) = ((i + 1 : Nat) : Int) := by rw [wr (by omega)]; omega
    by_cases hg : gainV ≤ wrap64 (2 * (invS gainV i).1)
    · have e : invS gainV (i + 1) = (wrap64 (wrap64 (2 * (invS gainV i).1) - gainV), Go.bits .or .i64 (wrap64 (2 * (invS gainV i).2)) 1) := by rw [invS, if_pos hg]
      simp only [evA, evT, evD, seval, h1, h3, shl1, hg]
      refine hK _ (weak_of (fun l => l) rfl ?_ ?_)
      all_goals simp only [evA, evB, evT, evD, seval, e, w64]
    · have e : invS gainV (i + 1) = (wrap64 (2 * (invS gainV i).1), wrap64 (2 * (invS gainV i).2)) := by rw [invS, if_neg hg]
      simp only [evA, evT, evD, seval, h1, h3, shl1, hg]
      refine hK _ (weak_of (fun l => l) rfl ?_ ?_)
      all_goals simp only [evA, evB, evT, evD, seval, e]
  · simp only [evA, evT, evD, seval, invV]
end Go.Proofs.YtnnjjblgilibgaaGreatV
/- The angles as numbers; points of parts of an eighth are small. -/
namespace Go.Proofs.YtnnjjblgilibgaaGreatV
open Go Go.RowKit
set_option linter.unusedVariables false
set_option linter.unusedSimpArgs false
set_option maxRecDepth 100000
set_option maxHeartbeats 40000000
def ANG : List Int := [56593902016227522, 33409331186036029, 17652573055549881, 8960721713639278, 4497749271019253, 2251067235130761, 1125808294293075, 562938500594602, 281473545067998, 140737309398767, 70368721808055, 35184369292630, 17592185694891, 8796092978518, 4398046505643, 2199023254870, 1099511627691, 549755813878, 274877906943, 137438953472, 68719476736, 34359738368, 17179869184, 8589934592, 4294967296, 2147483648, 1073741824, 536870912, 268435456, 134217728, 67108864, 33554432, 16777216, 8388608, 4194304, 2097152, 1048576, 524288, 262144, 131072, 65536, 32768, 16384, 8192, 4096]
theorem ang_list : (List.range 45).map angV = ANG := by decide +kernel
/-- A turn along angles. -/
def goL : List Int → Nat → Int × Int × Int → Int × Int × Int
  | [], _, p => p
  | a :: r, i, p => goL r (i + 1) (stV i a p)
theorem goL_run (x z : Int) : ∀ k i, goL ((List.range' i k).map angV) i (runV x z i) = runV x z (i + k)
  | 0, i => rfl
  | k + 1, i => by
    rw [List.range'_succ, List.map_cons, goL, show i + (k + 1) = i + 1 + k by omega]
    exact goL_run x z k (i + 1)
theorem run_L (x z : Int) : runV x z 45 = goL ANG 0 (x, 0, z) := by
  have := goL_run x z 45 0
  rw [← List.range_eq_range', ang_list] at this
  rw [show (45 : Nat) = 0 + 45 from rfl, ← this]
  rfl
theorem quarter_n : quarterV = 56593902016227522 := by
  have h : angV 0 = quarterV := rfl
  rw [← h]
  have : ((List.range 45).map angV)[0]? = ANG[0]? := by rw [ang_list]
  simpa [ANG] using this
theorem gain_n : gainV = 118661582157481174 := by
  unfold gainV
  rw [run_L]
  decide +kernel
theorem inv_n : invV = 43757185469210200 := by
  unfold invV
  rw [gain_n]
  decide +kernel
theorem pt_tab : ((List.range 65).all fun k => decide (-288230376151711744 ≤ (goL ANG 0 (43757185469210200, 0, (56593902016227522 * (k : Int)) / 64)).1 ∧ (goL ANG 0 (43757185469210200, 0, (56593902016227522 * (k : Int)) / 64)).1 ≤ 288230376151711744 ∧ -288230376151711744 ≤ (goL ANG 0 (43757185469210200, 0, (56593902016227522 * (k : Int)) / 64)).2.1 ∧ (goL ANG 0 (43757185469210200, 0, (56593902016227522 * (k : Int)) / 64)).2.1 ≤ 288230376151711744)) = true := by decide +kernel
/-- The angle of a part of an eighth. -/
def zV (k log : Nat) : Int := quarterV * k / 2 ^ log
/-- A point of a part of an eighth. -/
def eV (k log : Nat) : Int × Int := ((runV invV (zV k log) 45).1, (runV invV (zV k log) 45).2.1)
theorem e_win (k log : Nat) (hl : log ≤ 6) (hk : k ≤ 2 ^ log) : win 288230376151711744 (eV k log).1 (eV k log).2 := by
  have hz : zV k log = 56593902016227522 * ((k * 2 ^ (6 - log) : Nat) : Int) / 64 := by
    unfold zV
    rw [quarter_n]
    have : log = 0 ∨ log = 1 ∨ log = 2 ∨ log = 3 ∨ log = 4 ∨ log = 5 ∨ log = 6 := by omega
    rcases this with rfl | rfl | rfl | rfl | rfl | rfl | rfl <;> simp <;> omega
  have hk' : k * 2 ^ (6 - log) < 65 := by
    have : log = 0 ∨ log = 1 ∨ log = 2 ∨ log = 3 ∨ log = 4 ∨ log = 5 ∨ log = 6 := by omega
    rcases this with rfl | rfl | rfl | rfl | rfl | rfl | rfl <;> simp at hk ⊢ <;> omega
  have h := of_decide_eq_true (List.all_eq_true.1 pt_tab _ (List.mem_range.2 hk'))
  unfold eV
  rw [inv_n, run_L, hz]
  unfold win
  omega
end Go.Proofs.YtnnjjblgilibgaaGreatV
/- Contracts: points of the circle; roots. -/
namespace Go.Proofs.YtnnjjblgilibgaaGreatV
open Go Go.RowKit
set_option linter.unusedVariables false
set_option linter.unusedSimpArgs false
set_option maxRecDepth 100000
set_option maxHeartbeats 40000000
theorem fine176 : Fine Tryz.prog 176 := fun _ _ => by kernel_rfl
theorem fine175 : Fine Tryz.prog 175 := fun _ _ => by kernel_rfl
theorem fine170 : Fine Tryz.prog 170 := fun _ _ => by kernel_rfl
theorem fine162 : Fine Tryz.prog 162 := fun _ _ => by kernel_rfl
theorem fine142 : Fine Tryz.prog 142 := fun _ _ => by kernel_rfl
theorem fine139 : Fine Tryz.prog 139 := fun _ _ => by kernel_rfl
theorem dec_t' {p : Prop} [Decidable p] : (AV.raw (Value.bool true) = AV.bool (decide p)) = p := by simp
theorem dec_f' {p : Prop} [Decidable p] : (AV.raw (Value.bool false) = AV.bool (decide p)) = ¬ p := by simp
theorem dec_d' {p q : Prop} [Decidable p] [Decidable q] : (AV.raw (Value.bool (decide p)) = AV.bool (decide q)) = (p ↔ q) := by simp
theorem win_mono' {m m' a b : Int} (h : win m a b) (hm : m ≤ m') : win m' a b := by unfold win at *; omega
theorem pow6 {log : Nat} (h : log ≤ 6) : (1 : Int) ≤ 2 ^ log ∧ (2 : Int) ^ log ≤ 64 := by
  have h1 := pow_pos log
  have h2 : (2 : Int) ^ log ≤ 2 ^ 6 := pow_le h
  omega
theorem z_bd {k log : Nat} (hl : log ≤ 6) (hk : k ≤ 2 ^ log) : 0 ≤ quarterV * k ∧ quarterV * k ≤ 4611686018427387904 ∧ 0 ≤ zV k log ∧ zV k log ≤ 72057594037927936 := by
  have hp := pow6 hl
  have hk' : (k : Int) ≤ 2 ^ log := by exact_mod_cast hk
  unfold zV
  rw [quarter_n]
  refine ⟨by omega, by omega, Int.ediv_nonneg (by omega) (by omega), ?_⟩
  refine Int.ediv_le_of_le_mul (by omega) ?_
  generalize (2 : Int) ^ log = p at *
  omega
theorem Eighth1.ok (k log : Nat) (hl : log ≤ 6) (hk : k ≤ 2 ^ log) : Ok Tryz.prog 176 [.box [.int log] 0, .box [.int k] 0] (.tup [.int (zV k log), .int 0]) := by
  obtain ⟨z1, z2, z3, z4⟩ := z_bd hl hk
  have hk' : (k : Int) ≤ 2 ^ log := by exact_mod_cast hk
  have h1 : ¬ (log : Int) < 0 := by omega
  have h2 : ¬ 6 < (log : Int) := by omega
  have h3 : ¬ (k : Int) < 0 := by omega
  have h4 : ¬ (2 : Int) ^ log < k := by omega
  have h5 : (0 : Int) ≤ (log : Int) := by omega
  have e : IntKind.i64.wrap (quarterV * (k : Int)) = quarterV * k := wr (by omega)
  refine ok_of (X := fun _ => []) (Z := fun _ => false) (res := [ResultVar.tmp 2, ResultVar.tmp 3]) tok follows Tryz.func176 rfl rfl fine176 (by kernel_rfl) (by kernel_rfl) ?_
  simp only [evA, evT, evD, seval, h1, h2, h3, h5, Int.toNat_natCast, sh1 (show log ≤ 44 by omega), h4]
  refine call_ok Quarter0.ok rfl ?_
  simp only [evA, evT, evD, seval, h5, e, Int.toNat_natCast, fd (show log ≤ 62 by omega), zV]
theorem told.ok (F : Nat) (caps : List AV) (z : Int) (hc : ∀ lb, caps.map (snap lb 6) = caps) (hf : allFree caps = true) (h : Ok Tryz.prog F caps (.tup [.int z, .int 0])) (hz : -72057594037927936 ≤ z ∧ z ≤ 72057594037927936) :
    Ok Tryz.prog 175 [.fn F caps] (.tup [cxA (runV invV z 45).1 (runV invV z 45).2.1, .int 0]) := by
  refine ok_of (X := fun _ => []) (Z := fun _ => false) (res := [ResultVar.cell 2 43, ResultVar.tmp 3]) tok follows Tryz.func175 rfl rfl fine175 (by kernel_rfl) (by kernel_rfl) ?_
  simp only [evA, evT, evD, seval, hc]
  refine call_ok h rfl ?_
  simp only [evA, evT, evD, seval]
  refine call_ok Inverse0.ok rfl ?_
  simp only [evA, evT, evD, seval]
  refine call_ok (gRun.ok invV z (by rw [inv_n]; decide) hz) rfl ?_
  simp only [evA, evT, evD, seval]
theorem Eighth.ok (k log : Nat) (hl : log ≤ 6) (hk : k ≤ 2 ^ log) : Ok Tryz.prog 170 [.int k, .int log] (.tup [cxA (eV k log).1 (eV k log).2, .int 0]) := by
  obtain ⟨z1, z2, z3, z4⟩ := z_bd hl hk
  refine ok_of (X := fun _ => []) (Z := fun _ => false) (res := [ResultVar.cell 4 43, ResultVar.tmp 5]) tok follows Tryz.func170 rfl rfl fine170 (by kernel_rfl) (by kernel_rfl) ?_
  simp only [evA, evT, evD, seval]
  refine call_ok (told.ok 176 [.box [.int log] 0, .box [.int k] 0] (zV k log) (fun _ => rfl) rfl (Eighth1.ok k log hl hk) (by omega)) rfl ?_
  simp only [evA, evT, evD, seval, eV]
/-- A point of a part of a quarter. -/
def ptV (log u : Nat) : Int × Int := if 2 * u < 2 ^ log then eV (2 * u) log else if 2 ^ log < 2 * u then ((eV (2 * (2 ^ log - u)) log).2, (eV (2 * (2 ^ log - u)) log).1) else ((eV (2 ^ log) log).1, (eV (2 ^ log) log).1)
theorem point.ok (log u : Nat) (hl : log ≤ 6) (hu : u ≤ 2 ^ log) : Ok Tryz.prog 162 [.int log, .int u] (cxA (ptV log u).1 (ptV log u).2) := by
  have hp := pow6 hl
  have hpn : ((2 ^ log : Nat) : Int) = 2 ^ log := by rw [Int.natCast_pow]; rfl
  have h5 : (0 : Int) ≤ (log : Int) := by omega
  have hu' : (u : Int) ≤ 2 ^ log := by rw [← hpn]; exact_mod_cast hu
  have e2 : IntKind.i64.wrap (2 * (u : Int)) = ((2 * u : Nat) : Int) := by rw [wr (by omega)]; omega
  have e3 : IntKind.i64.wrap ((2 : Int) ^ log - u) = ((2 ^ log - u : Nat) : Int) := by rw [wr (by omega)]; omega
  have e4 : IntKind.i64.wrap (2 * ((2 ^ log - u : Nat) : Int)) = ((2 * (2 ^ log - u) : Nat) : Int) := by rw [wr (by omega)]; omega
  refine ok_of (X := fun _ => []) (Z := fun _ => false) (res := [ResultVar.cell 4 43]) tok follows Tryz.func162 rfl rfl fine162 (by kernel_rfl) (by kernel_rfl) ?_
  by_cases c1 : 2 * u < 2 ^ log
  · have c1' : ((2 * u : Nat) : Int) < 2 ^ log := by omega
    have e : ptV log u = eV (2 * u) log := by unfold ptV; rw [if_pos c1]
    simp only [evA, evT, evD, seval, h5, Int.toNat_natCast, sh1 (show log ≤ 44 by omega), e2, c1']
    refine call_ok (Eighth.ok (2 * u) log hl (by omega)) rfl ?_
    simp only [evA, evT, evD, seval, e]
  · have c1' : ¬ ((2 * u : Nat) : Int) < 2 ^ log := by omega
    by_cases c2 : 2 ^ log < 2 * u
    · have c2' : (2 : Int) ^ log < ((2 * u : Nat) : Int) := by omega
      have e : ptV log u = ((eV (2 * (2 ^ log - u)) log).2, (eV (2 * (2 ^ log - u)) log).1) := by unfold ptV; rw [if_neg c1, if_pos c2]
      simp only [evA, evT, evD, seval, h5, Int.toNat_natCast, sh1 (show log ≤ 44 by omega), e2, e3, e4, c1', c2']
      refine call_ok (Eighth.ok (2 * (2 ^ log - u)) log hl (by omega)) rfl ?_
      simp only [evA, evT, evD, seval, e]
    · have c2' : ¬ (2 : Int) ^ log < ((2 * u : Nat) : Int) := by omega
      have e : ptV log u = ((eV (2 ^ log) log).1, (eV (2 ^ log) log).1) := by unfold ptV; rw [if_neg c1, if_neg c2]
      have hE := Eighth.ok (2 ^ log) log hl (Nat.le_refl _)
      rw [hpn] at hE
      simp only [evA, evT, evD, seval, h5, Int.toNat_natCast, sh1 (show log ≤ 44 by omega), e2, c1', c2']
      refine call_ok hE rfl ?_
      simp only [evA, evT, evD, seval, e]
theorem pt_win (log u : Nat) (hl : log ≤ 6) (hu : u ≤ 2 ^ log) : win 288230376151711744 (ptV log u).1 (ptV log u).2 := by
  unfold ptV
  split
  · exact e_win _ _ hl (by omega)
  · split
    · have := e_win (2 * (2 ^ log - u)) log hl (by omega)
      unfold win at *
      simp only
      omega
    · have := e_win (2 ^ log) log hl (Nat.le_refl _)
      unfold win at *
      simp only
      omega
/-- A root: its place among n, the point, shifted. -/
def rR (log : Nat) (k : Int) : Nat := (k % 2 ^ log).toNat
def rP (log : Nat) (k bits : Int) : Int × Int := (rsh (ptV log (4 * rR log k % 2 ^ log)).1 (56 - bits) 1, rsh (ptV log (4 * rR log k % 2 ^ log)).2 (56 - bits) 1)
def rW (log : Nat) (k bits : Int) : Int × Int := (tRe (rP log k bits).1 (rP log k bits).2 ((4 * rR log k / 2 ^ log : Nat) : Int), -(tIm (rP log k bits).1 (rP log k bits).2 ((4 * rR log k / 2 ^ log : Nat) : Int)))
theorem rsh_win {x y s how : Int} (h : win 288230376151711744 x y) : win 288230376151711744 (rsh x s how) (rsh y s how) := by
  have hp := pow_pos s.toNat
  unfold win at *
  have h1 := rsh_btw (x := x) (s := s) (how := how) (a := -288230376151711744) (b := 288230376151711744) (by omega) (by omega)
  have h2 := rsh_btw (x := y) (s := s) (how := how) (a := -288230376151711744) (b := 288230376151711744) (by omega) (by omega)
  omega
theorem rR_lt {log : Nat} {k : Int} : rR log k < 2 ^ log ∧ ((rR log k : Nat) : Int) = k % 2 ^ log := by
  have hp := pow_pos log
  have h1 := Int.emod_nonneg k (Int.ne_of_gt hp)
  have h2 := Int.emod_lt_of_pos k hp
  have hpn : ((2 ^ log : Nat) : Int) = 2 ^ log := by rw [Int.natCast_pow]; rfl
  unfold rR
  omega
theorem root.ok (log : Nat) (k bits : Int) (hl : log ≤ 6) (hb : 0 ≤ bits ∧ bits ≤ 40) : Ok Tryz.prog 142 [.int log, .int k, .int bits] (cxA (rW log k bits).1 (rW log k bits).2) := by
  have hp := pow6 hl
  have hpn : ((2 ^ log : Nat) : Int) = 2 ^ log := by rw [Int.natCast_pow]; rfl
  have h5 : (0 : Int) ≤ (log : Int) := by omega
  obtain ⟨hR, hRe⟩ := rR_lt (log := log) (k := k)
  have e1 : IntKind.i64.wrap ((2 : Int) ^ log - 1) = 2 ^ log - 1 := wr (by omega)
  have e2 : Go.bits .and .i64 k (2 ^ log - 1) = ((rR log k : Nat) : Int) := by rw [and_mask64 log (by omega), hRe]
  have e3 : IntKind.i64.wrap (4 * ((rR log k : Nat) : Int)) = ((4 * rR log k : Nat) : Int) := by rw [wr (by omega)]; omega
  have e4 : Go.bits .and .i64 ((4 * rR log k : Nat) : Int) (2 ^ log - 1) = ((4 * rR log k % 2 ^ log : Nat) : Int) := by rw [and_mask64 log (by omega), Int.natCast_emod, hpn]
  have e5 : IntKind.i64.wrap (56 - bits) = 56 - bits := wr (by omega)
  have e6 : ((4 * rR log k : Nat) : Int) / 2 ^ log = ((4 * rR log k / 2 ^ log : Nat) : Int) := by rw [Int.natCast_ediv, hpn]
  have hu : 4 * rR log k % 2 ^ log ≤ 2 ^ log := Nat.le_of_lt (Nat.mod_lt _ (by omega))
  have hw := pt_win log (4 * rR log k % 2 ^ log) hl hu
  have hw2 : win 288230376151711744 (rP log k bits).1 (rP log k bits).2 := rsh_win hw
  have hw3 : win 2305843009213693952 (rP log k bits).1 (rP log k bits).2 := win_mono' hw2 (by decide)
  have t1 := tRe_near (n := ((4 * rR log k / 2 ^ log : Nat) : Int)) hw3 (by decide)
  have t2 := tIm_near (n := ((4 * rR log k / 2 ^ log : Nat) : Int)) hw3 (by decide)
  have hw4 : win 2305843009213693952 (tRe (rP log k bits).1 (rP log k bits).2 ((4 * rR log k / 2 ^ log : Nat) : Int)) (tIm (rP log k bits).1 (rP log k bits).2 ((4 * rR log k / 2 ^ log : Nat) : Int)) := by unfold win; omega
  unfold win at hw
  refine ok_of (X := fun _ => []) (Z := fun _ => false) (res := [ResultVar.cell 6 43]) tok follows Tryz.func142 rfl rfl fine142 (by kernel_rfl) (by kernel_rfl) ?_
  simp only [evA, evT, evD, seval, h5, Int.toNat_natCast, sh1 (show log ≤ 44 by omega), e1, e2, e3, e4]
  refine call_ok (point.ok log (4 * rR log k % 2 ^ log) hl hu) rfl ?_
  simp only [evA, evT, evD, seval, e5]
  refine call_ok (cxShift.ok _ _ (56 - bits) 1 (by omega) (by decide) (by unfold in64; omega) (by unfold in64; omega)) rfl ?_
  simp only [evA, evT, evD, seval, h5, Int.toNat_natCast, e3, fd (show log ≤ 62 by omega), e6]
  refine call_ok (Turn.ok (rP log k bits).1 (rP log k bits).2 _ hw3) rfl ?_
  simp only [evA, evT, evD, seval]
  refine call_ok (Conj.ok _ _ hw4) rfl ?_
  simp only [evA, evT, evD, seval, rW]
theorem rmay.ok (log bits : Int) : Ok Tryz.prog 139 [.int log, .int bits] (.bool (decide ((2 ≤ log ∧ log ≤ 6) ∧ 0 ≤ bits ∧ bits ≤ 40))) := by
  refine ok_of (X := fun _ => []) (Z := fun _ => false) (res := [ResultVar.tmp 4]) tok follows Tryz.func139 rfl rfl fine139 (by kernel_rfl) (by kernel_rfl) ?_
  simp only [evA, evT, evD, seval]
  by_cases h : 0 ≤ bits ∧ bits ≤ 62
  · refine call_ok (Shift.ok 0 bits 1 h (by decide) (by decide)) rfl ?_
    simp only [evA, evT, evD, seval, dec_t', dec_f', dec_d']
    omega
  · refine call_ok (Shift.bad 0 bits 1 (by omega)) rfl ?_
    simp only [evA, evT, evD, seval, dec_t', dec_f', dec_d']
    omega
end Go.Proofs.YtnnjjblgilibgaaGreatV
/- Contracts: the document's arcs, angles, turns. -/
namespace Go.Proofs.YtnnjjblgilibgaaGreatV
open Go Go.RowKit
set_option linter.unusedVariables false
set_option linter.unusedSimpArgs false
set_option maxRecDepth 100000
set_option maxHeartbeats 40000000
theorem fine159 : Fine Tryz.prog 159 := fun _ _ => by kernel_rfl
theorem fine183 : Fine Tryz.prog 183 := fun _ _ => by kernel_rfl
theorem fine178 : Fine Tryz.prog 178 := fun _ _ => by kernel_rfl
theorem fine172 : Fine Tryz.prog 172 := fun _ _ => by kernel_rfl
theorem fine171 : Fine Tryz.prog 171 := fun _ _ => by kernel_rfl
theorem fine167 : Fine Tryz.prog 167 := fun _ _ => by kernel_rfl
theorem fine155 : Fine Tryz.prog 155 := fun _ _ => by kernel_rfl
theorem RDiv.ok (x d : Int) (hx : 0 ≤ x ∧ x < 9223372036854775808) (hd : 1 ≤ d) : Ok Tryz.prog 159 [.int x, .int d] (.int (x.tdiv d)) := by
  have h := tdiv_nonneg_le hx.1 hd
  have e : IntKind.i64.wrap (x.tdiv d) = x.tdiv d := wr (by omega)
  have h1 : ¬ x < 0 := by omega
  have h2 : ¬ d = 0 := by omega
  refine ok_of (X := fun _ => []) (Z := fun _ => false) (res := [ResultVar.tmp 4]) tok follows Tryz.func159 rfl rfl fine159 (by kernel_rfl) (by kernel_rfl) ?_
  simp only [evA, evT, evD, seval, e, h1, h2]
theorem p56 : (2 : Int) ^ (56 : Int).toNat = 72057594037927936 := rfl
theorem RP.ok (n : Int) (j : Nat) (hn : 2 ≤ n) (hj : j ≤ 100) : Ok Tryz.prog 183 [.int n, .int j] (.int (apow n j)) := by
  have hP := Pow.ok 56 (by decide)
  rw [p56] at hP
  refine ok_of (X := fun _ => []) (Z := fun _ => false) (res := [ResultVar.tmp 4]) tok follows Tryz.func183 rfl rfl fine183 (by kernel_rfl) (by kernel_rfl) ?_
  simp only [evA, evT, evD, seval]
  refine call_ok hP rfl ?_
  simp only [evA, evT, evD, seval]
  refine call_ok (RDiv.ok _ n (by decide) (by omega)) rfl ?_
  simp only [evA, evT, evD, seval]
  refine l_inv (fun i => ⟨[(6, .int i), (5, .int (apow n i)), (0, .int n), (1, .int j)], [], 0⟩) j ?_ (fun i hi K hK => ?_) (fun K => ?_)
  · refine weak_of (fun l => l) rfl trivial ?_
    simp only [evA, evB, evT, evD, seval, Int.natCast_zero, apow]
  · have h1 : (i : Int) < j := by omega
    have h3 : IntKind.i64.wrap ((i : Int) + 1) = ((i + 1 : Nat) : Int) := by rw [wr (by omega)]; omega
    have hp := apow_le hn i
    have hq := tdiv_nonneg_le hp.1 (show 1 ≤ n by omega)
    simp only [evA, evT, evD, seval, h1]
    refine call_ok (RDiv.ok (apow n i) n (by omega) (by omega)) rfl ?_
    simp only [evA, evT, evD, seval]
    refine call_ok (RDiv.ok ((apow n i).tdiv n) n (by omega) (by omega)) rfl ?_
    simp only [evA, evT, evD, seval, h3]
    refine hK _ (weak_of (fun l => l) rfl trivial ?_)
    simp only [evA, evB, evT, evD, seval, apow]
  · simp only [evA, evT, evD, seval]
theorem in_push {zs : List Int} {z : Int} : intRows zs ++ [[.int z]] = intRows (zs ++ [z]) := by simp [intRows]
theorem in_one : ∀ (zs : List Int), allOne (intRows zs).flatten = true
  | [] => rfl
  | z :: r => by
    show allOne ([AV.int z] ++ (intRows r).flatten) = true
    exact in_one r
theorem asign_if (k : Nat) : asign k = if (k : Int).tmod 2 = 1 then -1 else 1 := by
  rw [Int.tmod_eq_emod_of_nonneg (by omega)]
  induction k with
  | zero => simp [asign]
  | succ k ih =>
    rw [asign, ih]
    split <;> split <;> omega
theorem RTerms.ok (n : Int) (hn : 2 ≤ n) : Ok Tryz.prog 178 [.int n] (.sl 1 (intRows (atake n (acount n)))) := by
  obtain ⟨c1, c2, c3⟩ := acount_spec hn
  refine ok_of (X := fun _ => []) (Z := fun _ => false) (res := [ResultVar.tmp 2]) tok follows Tryz.func178 rfl rfl fine178 (by kernel_rfl) (by kernel_rfl) ?_
  simp only [evA, evT, evD, seval]
  refine l_inv (fun i => ⟨[(4, .int i), (3, .own 0), (0, .int n)], [(0, some (.row 3 1 (intRows (atake n i))))], 1⟩) (acount n) ?_ (fun i hi K hK => ?_) (fun K => ?_)
  · refine weak_of (fun l => l) rfl ?_ ?_
    all_goals simp only [evA, evB, evT, evD, seval, Int.natCast_zero]
    exact .inl ⟨rfl, rfl⟩
  · have hpos : 0 < apow n i := c3 i hi
    have hp := apow_le hn i
    have h3 : IntKind.i64.wrap ((i : Int) + 1) = ((i + 1 : Nat) : Int) := by rw [wr (by omega)]; omega
    have h4 : IntKind.i64.wrap (2 * (i : Int)) = 2 * i := wr (by omega)
    have h5 : IntKind.i64.wrap (2 * (i : Int) + 1) = 2 * i + 1 := wr (by omega)
    have hq := tdiv_nonneg_le hp.1 (show 1 ≤ 2 * (i : Int) + 1 by omega)
    have hlen : (atake n i).length = i := by simp [atake]
    have hi1 : (i + 1) * 8 ≤ 140737488355328 := by omega
    have hi2 : i + 1 ≤ 9223372036854775807 := by omega
    simp only [evA, evT, evD, seval]
    refine call_ok (RP.ok n i hn (by omega)) rfl ?_
    simp only [evA, evT, evD, seval, hpos]
    refine call_ok (RP.ok n i hn (by omega)) rfl ?_
    simp only [evA, evT, evD, seval, h4, h5]
    refine call_ok (RDiv.ok (apow n i) (2 * i + 1) (by omega) (by omega)) rfl ?_
    by_cases ho : (i : Int).tmod 2 = 1
    · have e : aterm n i = -((apow n i).tdiv (2 * i + 1)) := by
        unfold aterm
        rw [asign_if, if_pos ho]
        omega
      have h6 : IntKind.i64.wrap (0 - (apow n i).tdiv (2 * i + 1)) = aterm n i := by rw [e, wr (by omega)]; omega
      simp only [evA, evB, evT, evD, seval, ho, h6, in_len, hlen, hi1, hi2, in_push, ← atake_succ, h3]
      refine hK _ (weak_of (fun l => l + 2) rfl ?_ ?_)
      all_goals simp only [evA, evB, evT, evD, seval, in_free]
    · have e : aterm n i = (apow n i).tdiv (2 * i + 1) := by
        unfold aterm
        rw [asign_if, if_neg ho]
        omega
      simp only [evA, evB, evT, evD, seval, ho, ← e, in_len, hlen, hi1, hi2, in_push, ← atake_succ, h3]
      refine hK _ (weak_of (fun l => l + 2) rfl ?_ ?_)
      all_goals simp only [evA, evB, evT, evD, seval, in_free]
  · simp only [evA, evT, evD, seval]
    refine call_ok (RP.ok n (acount n) hn (by omega)) rfl ?_
    simp only [evA, evT, evD, seval, c2, in_free]
theorem RArc.ok (n : Int) (hn : 2 ≤ n) : Ok Tryz.prog 172 [.int n] (.int (arcV n)) := by
  obtain ⟨c1, c2, c3⟩ := acount_spec hn
  have hlen : (atake n (acount n)).length = acount n := by simp [atake]
  have hE : arcV n = fS64 ((atake n (acount n)).take (acount n)) := by
    rw [List.take_of_length_le (by omega)]
    rfl
  refine ok_of (X := fun _ => []) (Z := fun _ => false) (res := [ResultVar.tmp 2]) tok follows Tryz.func172 rfl rfl fine172 (by kernel_rfl) (by kernel_rfl) ?_
  simp only [evA, evT, evD, seval]
  refine call_ok (RTerms.ok n hn) (by simp only [evA, evT, evD, seval, in_free]) ?_
  simp only [evA, evT, evD, seval, in_len, hlen]
  generalize hL : atake n (acount n) = zs at *
  refine l_inv (fun i => ⟨[(9, .int i), (8, .int zs.length), (7, .sl 1 (intRows zs)), (3, .int (fS64 (zs.take i)))], [], 0⟩) zs.length ?_ (fun i hi K hK => ?_) (fun K => ?_)
  · refine weak_of (fun l => l) rfl trivial ?_
    simp only [evA, evB, evT, evD, seval, in_free, Int.natCast_zero, hlen]
    exact .inl rfl
  · have h1 : (i : Int) < zs.length := by omega
    have h2 : (0 : Int) ≤ i := by omega
    have h3 : IntKind.i64.wrap ((i : Int) + 1) = ((i + 1 : Nat) : Int) := by rw [wr (by omega)]; omega
    have h4 : fS64 (zs.take (i + 1)) = wrap64 (fS64 (zs.take i) + zs[i]) := by rw [← fS64_snoc, List.take_append_getElem hi]
    simp only [evA, evT, evD, seval, h1, h2, h3, in_len, Int.toNat_natCast, in_get hi]
    refine hK _ (weak_of (fun l => l) rfl trivial ?_)
    simp only [evA, evB, evT, evD, seval, in_free, h4, w64]
  · simp only [evA, evT, evD, seval, hE, hlen]
theorem RQuarter.ok : Ok Tryz.prog 171 [] (.int quarterV) := by
  refine ok_of (X := fun _ => []) (Z := fun _ => false) (res := [ResultVar.tmp 0]) tok follows Tryz.func171 rfl rfl fine171 (by kernel_rfl) (by kernel_rfl) ?_
  simp only [evA, evT, evD, seval]
  refine call_ok (RArc.ok 2 (by decide)) rfl ?_
  simp only [evA, evT, evD, seval]
  refine call_ok (RArc.ok 3 (by decide)) rfl ?_
  simp only [evA, evT, evD, seval, w64, quarterV]
theorem RAngle.ok (i : Nat) (hi : i < 45) : Ok Tryz.prog 167 [.int i] (.int (angV i)) := by
  refine ok_of (X := fun _ => []) (Z := fun _ => false) (res := [ResultVar.tmp 2]) tok follows Tryz.func167 rfl rfl fine167 (by kernel_rfl) (by kernel_rfl) ?_
  by_cases h : i = 0
  · subst h
    simp only [evA, evT, evD, seval, Int.natCast_zero]
    refine call_ok RQuarter.ok rfl ?_
    simp only [evA, evT, evD, seval, angV]
  · have h' : ¬ (i : Int) = 0 := by omega
    have hp : (2 : Int) ^ 1 ≤ 2 ^ i := pow_le (by omega)
    have e : angV i = arcV (2 ^ i) := by unfold angV; rw [if_neg h]
    have hP := Pow.ok (i : Int) (by omega)
    rw [Int.toNat_natCast] at hP
    simp only [evA, evT, evD, seval, h']
    refine call_ok hP rfl ?_
    simp only [evA, evT, evD, seval]
    refine call_ok (RArc.ok (2 ^ i) (by omega)) rfl ?_
    simp only [evA, evT, evD, seval, e]
def angL (i : Nat) : List Int := (List.range i).map angV
theorem angL_succ (i : Nat) : angL i ++ [angV i] = angL (i + 1) := by
  unfold angL
  rw [List.range_succ, List.map_append]
  rfl
theorem RAngles.ok : Ok Tryz.prog 155 [] (.sl 1 (intRows (angL 45))) := by
  refine ok_of (X := fun _ => []) (Z := fun _ => false) (res := [ResultVar.tmp 0]) tok follows Tryz.func155 rfl rfl fine155 (by kernel_rfl) (by kernel_rfl) ?_
  simp only [evA, evT, evD, seval]
  refine l_inv (fun i => ⟨[(2, .int i), (1, .own 0)], [(0, some (.row 3 1 (intRows (angL i))))], 1⟩) 45 ?_ (fun i hi K hK => ?_) (fun K => ?_)
  · refine weak_of (fun l => l) rfl ?_ ?_
    all_goals simp only [evA, evB, evT, evD, seval, Int.natCast_zero]
    exact .inl ⟨rfl, rfl⟩
  · have h1 : (i : Int) < 45 := by omega
    have h3 : IntKind.i64.wrap ((i : Int) + 1) = ((i + 1 : Nat) : Int) := by rw [wr (by omega)]; omega
    have hlen : (angL i).length = i := by simp [angL]
    have hi1 : (i + 1) * 8 ≤ 140737488355328 := by omega
    have hi2 : i + 1 ≤ 9223372036854775807 := by omega
    simp only [evA, evT, evD, seval, h1]
    refine call_ok (RAngle.ok i hi) rfl ?_
    simp only [evA, evB, evT, evD, seval, in_len, hlen, hi1, hi2, in_push, angL_succ, h3]
    refine hK _ (weak_of (fun l => l + 2) rfl ?_ ?_)
    all_goals simp only [evA, evB, evT, evD, seval, in_free]
  · simp only [evA, evT, evD, seval, in_free]
end Go.Proofs.YtnnjjblgilibgaaGreatV
