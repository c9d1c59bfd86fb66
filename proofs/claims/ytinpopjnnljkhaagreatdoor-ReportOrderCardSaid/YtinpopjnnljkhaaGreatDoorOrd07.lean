/- ReportOrder: the law returns true for every source and every diagnostics. Part 7 of 17. -/
import Derived.Test.YtinpopjnnljkhaaGreatDoorOrd06
import Derived.RangeFuncLeaves
import Derived.OrdersIn
/- The machine for closed runs: append, slices. -/
namespace Go.Proofs.YtinpopjnnljkhaaGreatDoor

section
variable {P : Program} {o : Oper} {r : Ren} {h : AH} {w : World}
theorem live_cells (hr : Rel P r h w) {i : Nat} {ob : OB} {p : Pl} (hg : h.get i = some ob) (hk : ob.kind = 0) (hp : r i = some p) : ∃ cur fz, w.heap[p.blk]? = some (.cells cur ob.n fz) ∧ (fz = (0, 0) ∨ cur.size ≤ fz.1) ∧ cur.size = p.sz ∧ p.base + ob.cs.length ≤ p.sz ∧ szA P ob.n = some p.k ∧
    (∀ (j : Nat) (a : AV), ob.cs[j]? = some a → ∃ v, cur[p.base + j]? = some v ∧ VR r a v) := by
  obtain ⟨cur, fz, c1, c2, c3, c4, c5, c6, -⟩ := (hr.live _ _ _ hg hp).cells hk
  exact ⟨cur, fz, c1, c2, c3, c4, c5, c6⟩

/-- The cells of a slice, read; whatever was drawn. -/
theorem row_ok (hr : Rel P r h w) {e s : Nat} {x : AV} {v : Value} {k : List AV → R} {z : AV × AH} (hx : VR r x v) (hs : szA P e = some s) (hf : rowK h e s x k = some z) :
    ∃ l vs, k l = some z ∧ VRs r l vs ∧ l.length = x.d * s ∧ (∃ base c, v = .slice base x.d c ∧ x.d ≤ c) ∧ (∀ w' : World, (∀ b : Nat, w'.heap[b]? = w.heap[b]?) → (Builtin.firstCells s x.d v).run P w' = .ok vs.toArray w') := by
  obtain ⟨h4, hf⟩ := ifB_some hf
  cases h5 : Nat.beq x.d 0 with
  | true =>
    rw [h5, ifB_t] at hf
    have hd := beq_of h5
    refine ⟨[], [], hf, .nil, by simp [hd], ?_, fun w' _ => ?_⟩
    · by_cases ha : x.a = 1
      · obtain ⟨p, o', c', h6, h7, h8, -⟩ := hx.inv4 (beq_of h4) ha
        exact ⟨_, _, h7, h8⟩
      · obtain ⟨h6, h7⟩ := hx.inv4n (beq_of h4) ha
        exact ⟨_, _, by rw [h6, hd], by omega⟩
    · by_cases ha : x.a = 1
      · obtain ⟨p, o', c', h6, h7, h8, -⟩ := hx.inv4 (beq_of h4) ha
        rw [h7, hd]
        simp [Builtin.firstCells, loadCells, loadCellsFrom]
      · obtain ⟨h6, h7⟩ := hx.inv4n (beq_of h4) ha
        rw [h6]
        simp [Builtin.firstCells]
  | false =>
    rw [h5, ifB_f] at hf
    have hd := ne_of_beq h5
    obtain ⟨h6, hf⟩ := ifB_some hf
    obtain ⟨ob, h7, hf⟩ := optK_some hf
    obtain ⟨h8, hf⟩ := ifB_some hf
    obtain ⟨h9, hf⟩ := ifB_some hf
    obtain ⟨hb, hf⟩ := takeK_some hf
    obtain ⟨p, o', c', k1, k2, k3, k4, k5, k6, k7, k8⟩ := hx.inv4 (beq_of h4) (beq_of h6)
    obtain ⟨cur, fz, c1, c2, c3, c4, c5, c6⟩ := live_cells hr h7 (beq_of h8) k1
    have ho := k5.resolve_left hd
    subst ho
    rcases Nat.eq_zero_or_pos s with hs0 | hs0
    · subst hs0
      refine ⟨_, [], hf, by simpa using VRs.nil, by simp, ⟨_, _, k2, k3⟩, fun w' _ => ?_⟩
      rw [k2]
      simp [Builtin.firstCells, loadCells, loadCellsFrom]
    · have hb : x.c + x.d * s ≤ ob.cs.length := hb.resolve_right (fun e => by rcases Nat.mul_eq_zero.1 e with e | e <;> omega)
      refine ⟨_, (cur.toList.drop (p.base + x.c)).take (x.d * s), hf, VRs.of_get ?_ fun i a u g1 g2 => ?_, by simp; omega, ⟨_, _, k2, k3⟩, fun w' hw' => ?_⟩
      · simp
        omega
      · have hi : i < x.d * s := by
          have := (List.getElem?_eq_some_iff.1 g1).1
          simp at this
          omega
        rw [List.getElem?_take, if_pos hi, List.getElem?_drop] at g1 g2
        obtain ⟨v', g3, g4⟩ := c6 _ _ g1
        rw [Array.getElem?_toList, Nat.add_assoc, g3] at g2
        cases g2
        exact g4
      · rw [k2]
        refine run_firstCells_some (w := w') s x.d _ x.d c' _ (by simp; omega) fun j u hu => ?_
        have hj : j < x.d * s := by
          have := (List.getElem?_eq_some_iff.1 hu).1
          simp at this
          omega
        rw [List.getElem?_take, if_pos hj, List.getElem?_drop, Array.getElem?_toList] at hu
        rw [addr_add, cell_of ((hw' p.blk).trans c1)]
        exact hu
theorem live_one {l : List AV} {vs : List Value} (hl : VRs r l vs) (h1 : l.all oneCellN = true) : ∀ v ∈ vs, v.oneCell' = true := by
  intro v hv
  obtain ⟨i, hi⟩ := List.getElem?_of_mem hv
  have hlt := (List.getElem?_eq_some_iff.1 hi).1
  rw [← hl.length] at hlt
  obtain ⟨v', h2, h3⟩ := hl.get (List.getElem?_eq_getElem hlt)
  rw [hi] at h2
  cases h2
  exact (h3.one (Nat.le_of_ble_eq_true (List.all_eq_true.1 h1 _ (List.getElem_mem hlt)))).1

theorem grown_ge (need old : Nat) (e : TypeId) : need ≤ grownCap w need old e := grownCap_ge w need old e

/-- Behind an append that makes a new row. -/
theorem grow_post (hr : Rel P r h w) {e s : Nat} {l : List AV} {vs : List Value} {zc : Array Value} {c n : Nat} (hs : szA P e = some s) (hl : VRs r l vs) (hn : l.length = n * s) (hc : n ≤ c) (hz : zc.size = (c - n) * s) (hm : c ≤ 9223372036854775807) :
    ∃ r', Post P r h w r' (h.new (.arr l e)) (w.drew.alloc (.cells (vs.toArray ++ zc) e)) ∧ VR r' (.slc h.next 0 n capU) (.slice (some ⟨w.heap.size, 0, none⟩) n c) := by
  have h1 := Post.drew hr
  have hlen := hl.length
  have hsz : (vs.toArray ++ zc).size = c * s := by
    simp [hz, ← hlen, hn]
    rw [← Nat.add_mul]
    congr 1
    omega
  have hp : Post P r h w.drew (r.set h.next ⟨w.heap.size, 0, c * s, s⟩) (h.new (.arr l e)) (w.drew.alloc (.cells (vs.toArray ++ zc) e)) := by
    refine Post.alloc h1.rel rfl (.arr (heap_push_new w.drew _) (.inl rfl) hsz ?_ hs fun j a ha => ?_)
    · simp [hn]
      exact Nat.mul_le_mul_right _ hc
    · obtain ⟨v, g1, g2⟩ := hl.get ha
      have hj := (List.getElem?_eq_some_iff.1 g1).1
      refine ⟨v, ?_, g2.mono (r.le_set _ hr.fresh)⟩
      simp only [Nat.zero_add]
      rw [Array.getElem?_append_left (by simpa using hj)]
      simpa using g1
  exact ⟨_, h1.trans hp, .slc (Ren.set_same _ _ _) hc (.inl rfl) (.inr rfl) (by simp) (Nat.le_refl _) hm⟩

theorem append_ok {c : Call} {x y : Operand} {tx ty e e' s : Nat} (ho : o.op = .call c) (hc : c.callee = .builtin .append) (ha : c.args = #[x, y]) (hat : c.argTypes = #[tx, ty]) (htx : P.underlying tx = some (.slice e)) (hty : P.underlying ty = some (.slice e')) (hs : szA P e = some s) (hk : okRow P e = true) : OpOk P o (appendC (evB x).f (evB y).f e s) := by
  intro t h k z r a w hf hr he
  have hx := he x (by simp [ho, Op.operands, Call.operands, ha, hc])
  have hy := he y (by simp [ho, Op.operands, Call.operands, ha, hc])
  obtain ⟨i, zv, k1, k2, k3, k4, k5, k6, k7⟩ := okRow_some hk hs
  have hrun : ∀ (v : Value) (w' : World), (Builtin.append_ #[tx, ty] o.type #[a.eval x, a.eval y]).run P w = .ok v w' → (execOp a.eval o).run P w = .ok (.value v) w' := fun v w' hv => by
    simp [execOp, ho, resolve, hc, ha, hat, invoke, builtin, hv]
  obtain ⟨h4, hf⟩ := ifB_some hf
  obtain ⟨new, nvs, hf, n1, n2, ⟨nb, nc, n3, n3'⟩, n4⟩ := row_ok hr hy hs hf
  obtain ⟨hone, hf⟩ := ifB_some hf
  have hone := live_one n1 hone
  have hnl := n1.length
  have src : Src P i.size ty (a.eval y) ((evB y).f t).d nvs w := by
    refine ⟨.inl ⟨_, hty⟩, fun w' => by rw [n3]; simp [Builtin.lenOf], ?_, ?_, by rw [← hnl, n2, k2], hone⟩
    · rw [k2]; exact n4 w fun _ => rfl
    · rw [k2]; exact n4 w.drew fun _ => rfl
  unfold appendK at hf
  cases h0 : Nat.beq ((evB y).f t).d 0 with
  | true =>
    -- nothing is appended
    rw [h0, ifB_t] at hf
    have hd := beq_of h0
    rw [hd] at src n2
    have hnv : nvs = [] := by
      apply List.eq_nil_of_length_eq_zero
      rw [← hnl, n2]
      simp
    subst hnv
    refine ⟨_, _, hf, r, w, _, .inl (hrun _ _ ?_), hx, Post.refl hr⟩
    by_cases hxa : ((evB x).f t).a = 1
    · obtain ⟨p, o', c', q1, q2, q3, -⟩ := hx.inv4 (beq_of h4) hxa
      rw [q2]
      have := src.len w
      simp [Builtin.append_, run_underlying htx, run_underlying hty, run_size hs, this, q3, src.cells, k2 ▸ src.cells, storeCells]
    · obtain ⟨q1, q2⟩ := hx.inv4n (beq_of h4) hxa
      rw [q1]
      have := src.len w
      simp [Builtin.append_, run_underlying htx, run_underlying hty, run_size hs, this, src.cells, k2 ▸ src.cells]
  | false =>
    rw [h0, ifB_f] at hf
    have hd := ne_of_beq h0
    obtain ⟨hbig, hf⟩ := ifB_some hf
    have hbig := Nat.le_of_ble_eq_true hbig
    have fits : ∀ {need old : Nat}, old < need → need ≤ 1000000 → Builtin.nextslicecap need old * i.bytes ≤ 281474976710656 := fun h1 h2 => growslice_fits h1 (by
      have := Nat.mul_le_mul h2 k6
      omega)
    have zcs : ∀ n : Nat, (Builtin.zeroCells zv.cells n).size = n * s := fun n => by simp [Builtin.zeroCells, k4]
    cases h1 : Nat.beq ((evB x).f t).a 0 with
    | true =>
      rw [h1, ifB_t] at hf
      obtain ⟨q1, q2⟩ := hx.inv4n (beq_of h4) (by rw [beq_of h1]; decide)
      have hd0 : ((evB x).f t).d = 0 := by rw [q2]; rfl
      rw [hd0, Nat.zero_add] at hbig
      have hap := run_append_grow_src (P := P) w tx ty o.type e i zv htx k1 k3 none 0 0 [] (by simp [Builtin.firstCells]) (a.eval y) _ nvs src (by omega) (by omega) (fits (by omega) (by omega))
      rw [Nat.zero_add, List.nil_append] at hap
      obtain ⟨r', p1, p2⟩ := grow_post (h := h) hr hs n1 n2 (grown_ge (w := w) ((evB y).f t).d 0 e) (zcs _) (grownCap_le_maxLen w _ _ _ (by simp only [maxLen]; omega))
      refine ⟨_, _, hf, r', _, _, .inl (hrun _ _ ?_), p2, p1⟩
      rw [q1]
      exact hap
    | false =>
      rw [h1, ifB_f] at hf
      obtain ⟨old, ovs, hf, o1, o2, ⟨ob, oc, o3, o3'⟩, o4⟩ := row_ok hr hx hs hf
      by_cases hxa : ((evB x).f t).a = 1
      · obtain ⟨p, o', c', q1, q2, q3, q4, q5, q6, q7, q8⟩ := hx.inv4 (beq_of h4) hxa
        have olen := o1.length
        have grow : c' < ((evB x).f t).d + ((evB y).f t).d → ∃ r', Post P r h w r' (h.new (.arr (old ++ new) e)) (w.drew.alloc (.cells ((ovs ++ nvs).toArray ++ Builtin.zeroCells zv.cells (grownCap w (((evB x).f t).d + ((evB y).f t).d) c' e - (((evB x).f t).d + ((evB y).f t).d))) e)) ∧
            VR r' (.slc h.next 0 (((evB x).f t).d + ((evB y).f t).d) capU) (.slice (some ⟨w.heap.size, 0, none⟩) (((evB x).f t).d + ((evB y).f t).d) (grownCap w (((evB x).f t).d + ((evB y).f t).d) c' e)) ∧
            (execOp a.eval o).run P w = .ok (.value (.slice (some ⟨w.heap.size, 0, none⟩) (((evB x).f t).d + ((evB y).f t).d) (grownCap w (((evB x).f t).d + ((evB y).f t).d) c' e))) (w.drew.alloc (.cells ((ovs ++ nvs).toArray ++ Builtin.zeroCells zv.cells (grownCap w (((evB x).f t).d + ((evB y).f t).d) c' e - (((evB x).f t).d + ((evB y).f t).d))) e)) := by
          intro hg
          have hap := run_append_grow_src (P := P) w tx ty o.type e i zv htx k1 k3 (some ⟨p.blk, o', none⟩) ((evB x).f t).d c' ovs (by have := o4 w.drew fun _ => rfl; rw [q2] at this; rw [k2]; exact this) (a.eval y) _ nvs src hg (by omega) (fits hg hbig)
          obtain ⟨r', p1, p2⟩ := grow_post (h := h) hr hs (o1.append n1) (n := ((evB x).f t).d + ((evB y).f t).d) (by rw [List.length_append, o2, n2, Nat.add_mul]) (grown_ge (w := w) _ c' e) (zcs _) (grownCap_le_maxLen w _ _ _ (by simp only [maxLen]; omega))
          exact ⟨r', p1, p2, hrun _ _ (by rw [q2]; exact hap)⟩
        cases h2 : Nat.ble (((evB x).f t).d + ((evB y).f t).d) ((evB x).f t).e with
        | false =>
          rw [h2, ifB_f] at hf
          have hlt : ¬ ((evB x).f t).d + ((evB y).f t).d ≤ ((evB x).f t).e := fun e => by rw [Nat.ble_eq_true_of_le e] at h2; cases h2
          have hcap : ((evB x).f t).e = c' := q4.resolve_left fun e => by rw [e] at hlt; simp only [capU] at hlt; omega
          obtain ⟨r', p1, p2, p3⟩ := grow (by omega)
          exact ⟨_, _, hf, r', _, _, .inl p3, p2, p1⟩
        | true =>
          rw [h2, ifB_t] at hf
          obtain ⟨obj, g1, hf⟩ := optK_some hf
          obtain ⟨g2, hf⟩ := ifB_some hf
          obtain ⟨g3, hf⟩ := ifB_some hf
          have g3 := beq_of g3
          obtain ⟨cur, fz, c1, c2, c3, c4, c5, c6⟩ := live_cells hr g1 (beq_of g2) q1
          have hlt : p.blk < w.heap.size := (Array.getElem?_eq_some_iff.1 c1).1
          rw [g3] at c5
          have hpk : p.k = s := by rw [c5] at hs; exact Option.some.inj hs
          by_cases hroom : ((evB x).f t).d + ((evB y).f t).d ≤ c'
          · -- it lies where it lay
            have hb : o' + ((evB x).f t).d * s + nvs.length ≤ cur.size := by
              rw [← hnl, n2, c3]
              have := Nat.mul_le_mul_right s hroom
              rw [Nat.add_mul] at this
              rw [hpk] at q6
              omega
            have hstore := run_storeK (P := P) (e := obj.n) (fz := fz) hlt nvs cur (o' + ((evB x).f t).d * s) 0 c2 (by simpa using hb) hone
            rw [wcells_self c1, Nat.add_zero] at hstore
            refine ⟨_, _, hf, _, _, _, .inl (hrun (.slice (some ⟨p.blk, o', none⟩) (((evB x).f t).d + ((evB y).f t).d) c') _ ?_), ?_, Post.move (q := ⟨p.blk, o', p.sz, p.k⟩) (w' := wcells w p.blk (overV cur (o' + ((evB x).f t).d * s) nvs) obj.n fz) hr g1 q1 (.inl rfl) (by rw [wcells_size]; exact hlt) (by rw [wcells_size]; exact Nat.le_refl _) (fun b _ hb => wcells_ne _ _ _ hb) ?_ rfl rfl rfl⟩
            · rw [q2]
              have hl := src.len w
              simp [Builtin.append_, run_underlying htx, run_underlying hty, run_size hs, hl, hroom, k2 ▸ src.cells, addr_add, hstore]
            · refine .slc (p := ⟨p.blk, o', p.sz, p.k⟩) (Ren.set_same _ _ _) hroom ?_ (.inr rfl) q6 (Nat.le_refl _) q8
              rcases q4 with q4 | q4
              · exact .inl q4
              · exact .inr q4
            · rw [← g3]
              refine .arr (wcells_get _ _ _ hlt) (by rw [overV_size]; exact c2) (by rw [overV_size]; exact c3) ?_ (by rw [g3]; exact c5) fun j av hj => ?_
              · simp only [List.length_append, o2, n2]
                have := Nat.mul_le_mul_right s hroom
                rw [Nat.add_mul] at this
                rw [hpk] at q6
                omega
              · have hle := r.le_set (⟨p.blk, o', p.sz, p.k⟩ : Pl) hr.fresh
                show ∃ v, (overV cur (o' + ((evB x).f t).d * s) nvs)[o' + j]? = some v ∧ _
                rw [overV_get _ _ _ _ hb]
                by_cases hjo : j < old.length
                · rw [List.getElem?_append_left hjo] at hj
                  rw [o2] at hjo
                  rw [if_neg (by omega)]
                  obtain ⟨v, g4, g5⟩ := o1.get hj
                  refine ⟨v, ?_, g5.mono hle⟩
                  have h5 := o4 w fun _ => rfl
                  rw [q2] at h5
                  have h6 : (Builtin.firstCells s ((evB x).f t).d (.slice (some ⟨p.blk, o', none⟩) ((evB x).f t).d c')).run P w = .ok ((cur.toList.drop o').take (((evB x).f t).d * s)).toArray w := by
                    refine run_firstCells_some (w := w) s _ _ _ c' _ (by simp; omega) fun j u hu => ?_
                    have hj : j < ((evB x).f t).d * s := by
                      have := (List.getElem?_eq_some_iff.1 hu).1
                      simp at this
                      omega
                    rw [List.getElem?_take, if_pos hj, List.getElem?_drop, Array.getElem?_toList] at hu
                    rw [addr_add, cell_of c1]
                    exact hu
                  rw [h5] at h6
                  have h7 : ovs = (cur.toList.drop o').take (((evB x).f t).d * s) := by
                    have := (Result.ok.inj h6).1
                    simpa using congrArg Array.toList this
                  rw [h7, List.getElem?_take, if_pos hjo, List.getElem?_drop, Array.getElem?_toList] at g4
                  exact g4
                · rw [List.getElem?_append_right (by omega)] at hj
                  obtain ⟨v, g4, g5⟩ := n1.get hj
                  have hjl := (List.getElem?_eq_some_iff.1 g4).1
                  rw [if_pos (by omega)]
                  exact ⟨v, by rw [← g4]; congr 1; omega, g5.mono hle⟩
          · -- there is no room: it is new, and what is known of the old one is given up
            have hcap : ((evB x).f t).e = capU := q4.resolve_right fun e => by
              have := Nat.le_of_ble_eq_true h2
              omega
            have hdr := Post.drop hr ((evB x).f t).b q1
            obtain ⟨r', p1, p2⟩ := grow_post (h := h.put ((evB x).f t).b none) hdr.rel hs (o1.append n1) (n := ((evB x).f t).d + ((evB y).f t).d) (by rw [List.length_append, o2, n2, Nat.add_mul]) (grown_ge (w := w) _ c' e) (zcs _) (grownCap_le_maxLen w _ _ _ (by simp only [maxLen]; omega))
            obtain ⟨-, -, -, p3⟩ := grow (by omega)
            rw [hcap] at hf
            exact ⟨_, _, hf, r', _, _, .inl p3, p2, hdr.trans p1⟩
      · obtain ⟨q1, q2⟩ := hx.inv4n (beq_of h4) hxa
        rw [q2] at h1
        cases h1
end
end Go.Proofs.YtinpopjnnljkhaaGreatDoor
/- The machine for closed runs: slices, strings, functions, conversions. -/
namespace Go.Proofs.YtinpopjnnljkhaaGreatDoor

section
variable {P : Program} {o : Oper}
/-- A bound, as the machine and the model read it. -/
theorem bound_ok {r : Ren} {t : Fr} {a : Act} {x : Option Operand} {d : Nat} {k : Nat → R} {z : AV × AH} (hf : (boundB x).f t d k = some z) (he : ∀ y, x = some y → VR r ((evB y).f t) (a.eval y)) :
    ∃ n : Nat, k n = some z ∧ (x.map a.eval = none ∧ n = d ∨ ∃ kd, x.map a.eval = some (.int kd (n : Int))) := by
  cases x with
  | none => exact ⟨d, hf, .inl ⟨rfl, rfl⟩⟩
  | some y =>
    obtain ⟨h1, hf⟩ := ifB_some hf
    obtain ⟨n, h2, hf⟩ := natK_some hf
    obtain ⟨kd, h3, -⟩ := (he y rfl).inv0 (beq_of h1)
    exact ⟨n, hf, .inr ⟨kd, by rw [Option.map_some, h3, h2]⟩⟩
theorem run_bound {w : World} {v : Value} {kd : IntKind} {n m : Nat} {code : BoundsCode} (h : v = .int kd (n : Int)) (hn : n ≤ m) : (Instr.sliceBound v m code).run P w = .ok n w := by
  subst h
  have : (n : Int) ≤ (m : Int) := by omega
  simp [Instr.sliceBound, asIntOf, this]
/-- The bounds of a slice. -/
theorem run_bounds {w : World} {b : Bool} {len cap l n m : Nat} {lo hi mx : Option Value} (h1 : lo = none ∧ l = 0 ∨ ∃ kd, lo = some (.int kd (l : Int))) (h2 : hi = none ∧ n = len ∨ ∃ kd, hi = some (.int kd (n : Int)))
    (h3 : mx = none ∧ m = cap ∨ ∃ kd, mx = some (.int kd (m : Int))) (h4 : mx ≠ none → hi ≠ none) (hl : l ≤ n) (hn : n ≤ m) (hm : m ≤ cap) : (Instr.sliceBounds b len cap lo hi mx).run P w = .ok (l, n, m) w := by
  have low : ∀ c : Nat → BoundsCode, ((match lo with | some v => Instr.sliceBound v n (c 0) | none => Pure.pure 0 : Sem Nat)).run P w = .ok l w := fun c => by
    rcases h1 with ⟨rfl, rfl⟩ | ⟨kd, rfl⟩
    · rfl
    · exact run_bound rfl hl
  unfold Instr.sliceBounds
  rcases h3 with ⟨rfl, rfl⟩ | ⟨k3, rfl⟩
  · rcases h2 with ⟨rfl, rfl⟩ | ⟨k2, rfl⟩ <;> rcases h1 with ⟨rfl, rfl⟩ | ⟨k1, rfl⟩ <;> simp [run_bound (P := P) (w := w) rfl hl, run_bound (P := P) (w := w) rfl hn]
  · rcases h2 with ⟨rfl, rfl⟩ | ⟨k2, rfl⟩
    · exact absurd rfl (h4 (by simp))
    · rcases h1 with ⟨rfl, rfl⟩ | ⟨k1, rfl⟩ <;> simp [run_bound (P := P) (w := w) rfl hl, run_bound (P := P) (w := w) rfl hn, run_bound (P := P) (w := w) rfl hm]

theorem slice_ok {ty e : TypeId} {x : Operand} {lo hi mx : Option Operand} {s : Nat} (ho : o.op = .slice ty x lo hi mx) (ht : P.underlying ty = some (.slice e)) (hs : szA P e = some s) (hmx : mx.isSome = true → hi.isSome = true) : PlOk P o (sliceC (evB x).f e s (boundB lo).f (boundB hi).f (boundB mx).f mx.isSome) := by
  intro t h k z r a w N hf hr he
  have hx := he x (by simp [ho, Op.operands])
  obtain ⟨h4, hf⟩ := ifB_some hf
  obtain ⟨l, hf, hl⟩ := bound_ok (r := r) (a := a) hf fun y hy => he y (by simp [ho, Op.operands, hy])
  obtain ⟨n, hf, hn⟩ := bound_ok (r := r) (a := a) hf fun y hy => he y (by simp [ho, Op.operands, hy])
  obtain ⟨m, hf, hm⟩ := bound_ok (r := r) (a := a) hf fun y hy => he y (by simp [ho, Op.operands, hy])
  obtain ⟨b1, hf⟩ := ifB_some hf
  obtain ⟨b2, hf⟩ := ifB_some hf
  obtain ⟨b3, hf⟩ := ifB_some hf
  have b1 := Nat.le_of_ble_eq_true b1
  have b2 := Nat.le_of_ble_eq_true b2
  have b3 := Nat.le_of_ble_eq_true b3
  have hmx' : (mx.map a.eval) ≠ none → (hi.map a.eval) ≠ none := fun h e => by
    cases mx with
    | none => exact h rfl
    | some y =>
      have := hmx rfl
      cases hi with
      | none => cases this
      | some _ => cases e
  cases h5 : Nat.beq ((evB x).f t).a 0 with
  | true =>
    rw [h5, ifB_t] at hf
    obtain ⟨q1, q2⟩ := hx.inv4n (beq_of h4) (by rw [beq_of h5]; decide)
    have hd : ((evB x).f t).d = 0 := by rw [q2]; rfl
    rw [hd] at b3 hm hn
    refine ⟨_, _, hf, PDoes.pure hr .snil ?_⟩
    have hb := run_bounds (P := P) (w := w) (b := true) (len := 0) (cap := 0) hl hn hm hmx' b1 b2 b3
    obtain ⟨e1, e2, e3⟩ : m = 0 ∧ n = 0 ∧ l = 0 := ⟨by omega, by omega, by omega⟩
    rw [e1, e2, e3] at hb
    simp [execOp, ho, q1, Instr.sliceAt, Instr.slice, run_underlying ht, hb, run_size hs]
  | false =>
    rw [h5, ifB_f] at hf
    by_cases h6 : ((evB x).f t).a = 1
    · obtain ⟨p, o', c', q1, q2, q3, q4, q5, q6, q7, q8⟩ := hx.inv4 (beq_of h4) h6
      -- the elements' size
      have hrow : k (.slc ((evB x).f t).b (((evB x).f t).c + l * s) (n - l) (ifB mx.isSome (m - l) (ifB (Nat.beq ((evB x).f t).e capU) capU (((evB x).f t).e - l)))) h = some z ∧ (l = 0 ∨ p.k = s) := by
        unfold isRow at hf
        cases h7 : Nat.beq l 0 with
        | true => rw [h7, ifB_t] at hf; exact ⟨hf, .inl (beq_of h7)⟩
        | false =>
          rw [h7, ifB_f] at hf
          obtain ⟨ob, g1, hf⟩ := optK_some hf
          obtain ⟨g2, hf⟩ := ifB_some hf
          obtain ⟨g3, hf⟩ := ifB_some hf
          obtain ⟨cur, fz, c1, c2, c3, c4, c5, c6⟩ := live_cells hr g1 (beq_of g2) q1
          rw [beq_of g3, hs] at c5
          exact ⟨hf, .inr (Option.some.inj c5).symm⟩
      obtain ⟨hf, hk⟩ := hrow
      -- the capacity's bound
      obtain ⟨M, hM, hM2, hM3, hM4⟩ : ∃ M, ((mx.map a.eval = none ∧ M = c') ∨ ∃ kd, mx.map a.eval = some (.int kd (M : Int))) ∧ n ≤ M ∧ M ≤ c' ∧ ((mx.isSome = true ∧ M = m) ∨ (mx.isSome = false ∧ M = c')) := by
        cases mx with
        | none => exact ⟨c', .inl ⟨rfl, rfl⟩, by omega, Nat.le_refl _, .inr ⟨rfl, rfl⟩⟩
        | some y =>
          rcases hm with ⟨e, -⟩ | e
          · cases e
          · exact ⟨m, .inr e, b2, by omega, .inl ⟨rfl, rfl⟩⟩
      have hb := run_bounds (P := P) (w := w) (b := true) (len := ((evB x).f t).d) (cap := c') hl hn hM hmx' b1 hM2 hM3
      refine ⟨_, _, hf, PDoes.pure hr (v' := .slice (if M = l then some ⟨p.blk, o', none⟩ else some ⟨p.blk, o' + l * s, none⟩) (n - l) (M - l)) ?_ ?_⟩
      · have hcap : ifB mx.isSome (m - l) (ifB (Nat.beq ((evB x).f t).e capU) capU (((evB x).f t).e - l)) = capU ∨ ifB mx.isSome (m - l) (ifB (Nat.beq ((evB x).f t).e capU) capU (((evB x).f t).e - l)) = M - l := by
          rcases hM4 with ⟨e, rfl⟩ | ⟨e, rfl⟩ <;> rw [e]
          · exact .inr rfl
          · rw [ifB_f]
            rcases q4 with q4 | q4
            · rw [q4, Nat.beq_refl]; exact .inl rfl
            · cases hb : Nat.beq ((evB x).f t).e capU with
              | true => exact .inl rfl
              | false => exact .inr (by rw [ifB_f, q4])
        by_cases hML : M = l
        · rw [if_pos hML]
          exact .slc q1 (by omega) hcap (.inl (by omega)) (by rw [hML, Nat.sub_self, Nat.zero_mul]; omega) q7 (by omega)
        · rw [if_neg hML]
          refine .slc q1 (by omega) hcap ?_ ?_ (by omega) (by omega)
          · rcases q5 with q5 | q5
            · exact .inl (by omega)
            · exact .inr (by omega)
          · rcases hk with rfl | rfl
            · rw [Nat.zero_mul, Nat.sub_zero]
              have := Nat.mul_le_mul_right p.k hM3
              omega
            · have h1 : l * p.k + (M - l) * p.k = M * p.k := by rw [← Nat.add_mul]; congr 1; omega
              have := Nat.mul_le_mul_right p.k hM3
              omega
      · simp only [execOp, ho, q2, Instr.sliceAt, Instr.slice, Sem.run_bind, run_underlying ht, Result.andThen_ok, hb, run_size hs, Sem.run_pure, Option.map_some, addr_add]
    · obtain ⟨q1, q2⟩ := hx.inv4n (beq_of h4) h6
      rw [q2] at h5
      cases h5

theorem sstr_ok {ty : TypeId} {x : Operand} {lo hi : Option Operand} (ho : o.op = .slice ty x lo hi none) (ht : P.underlying ty = some .string) : PlOk P o (sstrC (evB x).f (boundB lo).f (boundB hi).f) := by
  intro t h k z r a w N hf hr he
  have hx := he x (by simp [ho, Op.operands])
  obtain ⟨h4, hf⟩ := ifB_some hf
  obtain ⟨l, hf, hl⟩ := bound_ok (r := r) (a := a) hf fun y hy => he y (by simp [ho, Op.operands, hy])
  obtain ⟨n, hf, hn⟩ := bound_ok (r := r) (a := a) hf fun y hy => he y (by simp [ho, Op.operands, hy])
  obtain ⟨b1, hf⟩ := ifB_some hf
  obtain ⟨b2, hf⟩ := ifB_some hf
  have b1 := Nat.le_of_ble_eq_true b1
  have b2 := Nat.le_of_ble_eq_true b2
  obtain ⟨s, q1, q2⟩ := hx.inv2 (beq_of h4)
  have hsz : ((evB x).f t).s.length = s.size := by rw [q2]; rfl
  rw [hsz] at hn b2
  have hb := run_bounds (P := P) (w := w) (b := false) (len := s.size) (cap := s.size) (mx := none) hl hn (.inl ⟨rfl, rfl⟩) (by simp) b1 b2 (Nat.le_refl _)
  refine ⟨_, _, hf, PDoes.pure hr (v' := .string (s.extract l n)) ?_ ?_⟩
  · have := VR.str (r := r) (s.extract l n)
    have e : (s.extract l n).data.toList = (((evB x).f t).s.drop l).take (n - l) := by
      rw [q2]
      simp [ByteArray.data_extract, Array.toList_extract, List.extract]
    rw [← e]
    exact this
  · simp [execOp, ho, q1, Instr.sliceAt, Instr.slice, run_underlying ht, hb]

theorem evs_ok {r : Ren} {t : Fr} {a : Act} : ∀ {xs : List Operand}, EvOk r t a xs → VRs r ((evsB xs).f t) (xs.map a.eval)
  | [], _ => .nil
  | x :: xs, h => .cons (h x (by simp)) (evs_ok fun y hy => h y (by simp [hy]))

theorem makeFunc_ok {f : Nat} {first cap : Array Operand} (ho : o.op = .makeFunc (.func f) first cap) : PlOk P o (fun t h k => k (.fn f first.size ((evsB (first.toList ++ cap.toList)).f t)) h) := by
  intro t h k z r a w N hf hr he
  have hl := evs_ok (r := r) (t := t) (a := a) (xs := first.toList ++ cap.toList) fun x hx => he x (by simpa [ho, Op.operands] using hx)
  refine ⟨_, _, hf, PDoes.pure hr (v' := .func (.func f) (first.map a.eval) (cap.map a.eval)) ?_ (by simp [execOp, ho, Instr.makeFunc])⟩
  have := VR.fn (r := r) f (first.map a.eval) (cap.map a.eval) (l := (evsB (first.toList ++ cap.toList)).f t) (by simpa using hl)
  simpa using this

theorem map_late {r : Ren} {g : AH} {w : World} {i : Nat} (hr : Rel P r g w) (hn : r i = none) (hi : i < g.next) (hob : ∀ o', g.get i = some o' → o' = .map [] 0) : LPost P r g w i (r.set i ⟨w.heap.size, 0, 0, 0⟩) (w.alloc (.map #[] 0)) :=
  LPost.alloc hr hn hi hob rfl (.map (heap_push_new w _) .nil (by simp))
theorem makeMap_ok {ty : TypeId} (ho : o.op = .makeMap ty none) : LateOk P o (fun _ h k => k (.map h.next) (h.new (.map [] 0))) := by
  refine ⟨fun t h k y hf => ⟨_, _, hf⟩, fun t h k y r a hf he => ⟨_, _, hf, fun w g hr hn hi hob => ?_⟩⟩
  exact ⟨_, _, _, by simp [execOp, ho, Instr.makeMap], .map (p := ⟨w.heap.size, 0, 0, 0⟩) (Ren.set_same _ _ _), map_late hr hn hi hob⟩
theorem makeMap2_ok {ty kt e : TypeId} {x : Operand} (ho : o.op = .makeMap ty (some x)) (ht : P.underlying ty = some (.map kt e)) : LateOk P o (fun t h k => ifB (Nat.beq ((evB x).f t).tag 0) (k (.map h.next) (h.new (.map [] 0))) none) := by
  refine ⟨fun t h k y hf => ⟨_, _, (ifB_some hf).2⟩, fun t h k y r a hf he => ?_⟩
  obtain ⟨h1, hf⟩ := ifB_some hf
  obtain ⟨kd, h2, -⟩ := (he x (by simp [ho, Op.operands])).inv0 (beq_of h1)
  exact ⟨_, _, hf, fun w g hr hn hi hob => ⟨_, _, _, by simp [execOp, ho, Instr.makeMap, h2, run_underlying ht, asInt, asIntOf], .map (p := ⟨w.heap.size, 0, 0, 0⟩) (Ren.set_same _ _ _), map_late hr hn hi hob⟩⟩
end
end Go.Proofs.YtinpopjnnljkhaaGreatDoor
/- The machine for closed runs: maps; bytes of strings; new rows. -/
namespace Go.Proofs.YtinpopjnnljkhaaGreatDoor

section
variable {P : Program} {o : Oper} {r : Ren} {kd : TypeDesc} {T : Nat}
theorem bytes_beq (s q : ByteArray) : (s == q) = true ↔ s = q := by
  cases s with
  | mk a => cases q with
    | mk b =>
      show (a == b) = true ↔ _
      rw [beq_iff_eq]
      constructor
      · intro h; rw [h]
      · intro h; cases h; rfl
theorem key_ok {x y : AV} {u v : Value} {k : Bool → R} {z : AV × AH} (hT : keyTag (some kd) = some T) (hx : VR r x u) (hy : VR r y v) (ht : x.tag = T) (hf : keyEq x y k = some z) : ∃ b, k b = some z ∧ Instr.sameNow kd u v = some b ∧ (b = true → v = u) := by
  obtain ⟨h1, hf⟩ := ifB_some hf
  have h1 := beq_of h1
  cases h2 : Nat.beq x.a y.a with
  | false =>
    rw [h2, ifB_f] at hf
    obtain ⟨h3, hf⟩ := ifB_some hf
    have h3 := beq_of h3
    unfold keyTag at hT
    split at hT <;> cases hT <;> omega
  | true =>
    rw [h2, ifB_t] at hf
    have h2 := beq_of h2
    unfold keyTag at hT
    split at hT
    · rename_i hkd
      cases hT
      cases hkd
      rw [ht, show Nat.beq 0 0 = true from rfl, ifB_t] at hf
      obtain ⟨k1, h4, h5⟩ := hx.inv0 ht
      obtain ⟨k2, h6, h7⟩ := hy.inv0 (h1.symm.trans ht)
      have := kindN_inj (h5.symm.trans (h2.trans h7))
      subst this
      refine ⟨_, hf, ?_, fun hb => ?_⟩
      · rw [h4, h6]
        simp [Instr.sameNow, intEq_eq]
      · rw [intEq_eq] at hb
        have : x.i = y.i := by simpa using hb
        rw [h4, h6, this]
    · rename_i hkd
      cases hT
      cases hkd
      rw [ht, show Nat.beq 2 0 = false from rfl, ifB_f, show Nat.beq 2 2 = true from rfl, ifB_t] at hf
      obtain ⟨s, h4, h5⟩ := hx.inv2 ht
      obtain ⟨q, h6, h7⟩ := hy.inv2 (h1.symm.trans ht)
      have e : s = q ↔ strEq x.s y.s = true := by
        rw [strEq_iff, h5, h7]
        constructor
        · intro h; rw [h]
        · intro h
          cases s; cases q
          simp at h
          rw [h]
      refine ⟨_, hf, ?_, fun hb => ?_⟩
      · rw [h4, h6]
        show some (s == q) = some _
        rw [Option.some.injEq, Bool.eq_iff_iff, bytes_beq]
        exact e
      · rw [h4, h6, e.2 hb]
    · cases hT
theorem find_ok {key : AV} {kv : Value} {x : AV × AH} (hT : keyTag (some kd) = some T) (hk : VR r key kv) (ht : key.tag = T) {no : R} {yes : AV → R} {es : List ME} {Es : List MapEntry} (i : Nat) (hf : findK key es no yes = some x) (h : MEs r es Es) :
    (no = some x ∧ Instr.findNow kd kv Es i = some none) ∨ (∃ j e E, yes e.val = some x ∧ es[j]? = some e ∧ Es[j]? = some E ∧ Instr.findNow kd kv Es i = some (some (i + j, E.val)) ∧ VR r e.val E.val) := by
  induction h generalizing i with
  | nil => exact .inl ⟨hf, rfl⟩
  | @cons e E l L hk' hv hb tl ih =>
    obtain ⟨b, h1, h2, h3⟩ := key_ok hT hk hk' ht hf
    cases b with
    | true => exact .inr ⟨0, e, E, h1, rfl, rfl, by simp [Instr.findNow, h2], hv⟩
    | false =>
      rcases ih (i + 1) h1 with ⟨h4, h5⟩ | ⟨j, e', E', h4, h5, h6, h7, h8⟩
      · exact .inl ⟨h4, by simp [Instr.findNow, h2, h5]⟩
      · exact .inr ⟨j + 1, e', E', h4, by simpa using h5, by simpa using h6, by simp only [Instr.findNow, h2, h7]; congr 3; omega, h8⟩
theorem upd_ok {key val : AV} {kv : Value} {x : AV × AH} (hT : keyTag (some kd) = some T) (hk : VR r key kv) (ht : key.tag = T) {es : List ME} {Es : List MapEntry} {K : List ME → R} (i : Nat) (hf : updK key val es K = some x) (h : MEs r es Es) :
    ∃ j e E, K (es.set j ⟨key, val, e.born⟩) = some x ∧ es[j]? = some e ∧ Es[j]? = some E ∧ Instr.findNow kd kv Es i = some (some (i + j, E.val)) ∧ E.key = kv := by
  induction h generalizing i K with
  | nil => cases hf
  | @cons e E l L hk' hv hb tl ih =>
    obtain ⟨b, h1, h2, h3⟩ := key_ok hT hk hk' ht hf
    cases b with
    | true => exact ⟨0, e, E, h1, rfl, rfl, by simp [Instr.findNow, h2], h3 rfl⟩
    | false =>
      obtain ⟨j, e', E', h4, h5, h6, h7, h8⟩ := ih (K := fun r => K (e :: r)) (i + 1) h1
      exact ⟨j + 1, e', E', h4, by simpa using h5, by simpa using h6, by simp only [Instr.findNow, h2, h7]; congr 3; omega, h8⟩
theorem MEs.set : ∀ {es : List ME} {Es : List MapEntry} {j : Nat} {e : ME} {E : MapEntry}, MEs r es Es → VR r e.key E.key → VR r e.val E.val → E.born = e.born → MEs r (es.set j e) (Es.set j E)
  | _, _, j, _, _, .nil, _, _, _ => by cases j <;> exact .nil
  | _, _, 0, _, _, .cons _ _ _ t, hk, hv, hb => .cons hk hv hb t
  | _, _, j + 1, _, _, .cons a b c t, hk, hv, hb => .cons a b c (MEs.set t hk hv hb)
theorem MEs.born : ∀ {es : List ME} {Es : List MapEntry} {j : Nat} {e : ME} {E : MapEntry}, MEs r es Es → es[j]? = some e → Es[j]? = some E → E.born = e.born
  | _, _, j, _, _, .nil, h, _ => by simp at h
  | _, _, 0, _, _, .cons _ _ c t, h, h' => by simp at h h'; subst h h'; exact c
  | _, _, j + 1, _, _, .cons a b c t, h, h' => MEs.born t (j := j) (by simpa using h) (by simpa using h')

theorem keyDesc (hT : keyTag (some kd) = some T) : (∃ k, kd = .int k) ∨ kd = .string := by
  unfold keyTag at hT
  split at hT <;> rename_i h
  · cases h; exact .inl ⟨_, rfl⟩
  · cases h; exact .inr rfl
  · cases hT
theorem run_checkKey {w : World} {b : Bool} {kt : TypeId} {v : Value} (hu : P.underlying kt = some kd) (hT : keyTag (some kd) = some T) : (Instr.checkKey b 10000 kt v).run P w = .ok () w := by
  have : ∀ n, (Instr.checkKey b (n + 1) kt v).run P w = .ok () w := fun n => by
    rcases keyDesc hT with ⟨k, rfl⟩ | rfl <;> simp [Instr.checkKey, run_underlying hu]
  exact this 9999
theorem run_findKey {w : World} {kt : TypeId} {v : Value} {es : List MapEntry} {x : Option (Nat × Value)} (hu : P.underlying kt = some kd) (h : Instr.findNow kd v es 0 = some x) : (Instr.findKey kt v es).run P w = .ok x w := by
  simp [Instr.findKey, run_underlying hu, h]
theorem run_getMap {w : World} {b : Nat} {es : Array MapEntry} {c : Nat} (h : w.heap[b]? = some (.map es c)) : (getObj b).run P w = .ok (.map es c) w := by simp [getObj, Sem.run, h]
def wobj (w : World) (b : Nat) (O : Obj) : World := { w with heap := w.heap.setIfInBounds b O }
theorem run_setMap {w : World} {b : Nat} {es : Array MapEntry} {c : Nat} (h : w.heap[b]? = some (.map es c)) (O : Obj) : (setObj b O).run P w = .ok () (wobj w b O) := by simp [setObj, Sem.run, h, wobj]
theorem post_wobj {h : AH} {w : World} (hr : Rel P r h w) {i : Nat} {ob ob' : OB} {p : Pl} {O : Obj} (hi : h.get i = some ob) (hp : r i = some p) (ho : ObR P r p (wobj w p.blk O) ob') : Post P r h w r (h.put i (some ob')) (wobj w p.blk O) :=
  Post.put hr hi hp (by simp [wobj]) (fun b hb => by simp [wobj, Array.getElem?_setIfInBounds_ne (Ne.symm hb)]) ho rfl rfl rfl
theorem wobj_get {w : World} {b : Nat} {O : Obj} (h : b < w.heap.size) : (wobj w b O).heap[b]? = some O := by simp [wobj, h]

/-- A map that is exact. -/
theorem map_live {h : AH} {w : World} (hr : Rel P r h w) {i : Nat} {ob : OB} {p : Pl} (hg : h.get i = some ob) (hk : ob.kind = 1) (hp : r i = some p) : ∃ cur, w.heap[p.blk]? = some (.map cur ob.n) ∧ MEs r ob.es cur.toList ∧ ∀ e ∈ ob.es, e.born < ob.n := by
  have := hr.live _ _ _ hg hp
  cases this with
  | arr _ _ _ _ _ _ => cases hk
  | map h1 h2 h3 => exact ⟨_, h1, h2, h3⟩
  | lit _ _ _ _ _ => cases hk
  | iter _ _ _ => cases hk
  | loop _ _ _ _ _ _ _ _ => cases hk

theorem zeroVA_run {w : World} {e : TypeId} {z : AV} (h : zeroVA P e = some z) : ∃ v, (zeroValue e).run P w = .ok v w ∧ VR r z v := by
  unfold zeroVA at h
  rw [infK_eq] at h
  cases hi : P.info? e with
  | none => rw [hi] at h; cases h
  | some i =>
    rw [hi] at h
    simp only at h
    cases hz : i.zero with
    | none => rw [hz] at h; cases h
    | some v =>
      rw [hz] at h
      cases h
      exact ⟨v, by simp [zeroValue, typeInfo, hi, hz], VR_ofV r v⟩

/-- Keys of one kind are one if their values are. -/
theorem key_one {a b : AV} {v : Value} (ha : VR r a v) (hb : VR r b v) (hta : a.tag = T) (htb : b.tag = T) (hT : keyTag (some kd) = some T) : a = b := by
  rcases keyDesc hT with ⟨k, rfl⟩ | rfl
  · cases hT
    cases ha <;> first | (cases hta; done) | (cases hb <;> first | (cases htb; done) | rfl)
  · cases hT
    cases ha <;> first | (cases hta; done) | (cases hb <;> first | (cases htb; done) | rfl)
theorem findL_ok {key : AV} {kv : Value} {x : AV × AH} (hT : keyTag (some kd) = some T) (hk : VR r key kv) (ht : key.tag = T) {no : R} {yes : AV → R} : ∀ {es : List ME}, findK key es no yes = some x → (∀ e ∈ es, ∃ v, VR r e.key v) →
    (no = some x ∧ ∀ e ∈ es, ∀ v, VR r e.key v → Instr.sameNow kd kv v = some false) ∨ (∃ e ∈ es, yes e.val = some x ∧ e.key.tag = T ∧ e.key.a = key.a ∧ ∀ v, VR r e.key v → v = kv ∧ Instr.sameNow kd kv v = some true)
  | [], hf, _ => .inl ⟨hf, fun _ h => by cases h⟩
  | e :: es, hf, hv => by
    have hf : keyEq key e.key (fun b => ifB b (yes e.val) (findK key es no yes)) = some x := hf
    have htag : e.key.tag = T := by
      obtain ⟨h1, -⟩ := ifB_some hf
      exact (beq_of h1).symm.trans ht
    obtain ⟨v0, hv0⟩ := hv e List.mem_cons_self
    obtain ⟨b, h1, h2, h3⟩ := key_ok hT hk hv0 ht hf
    have hall : ∀ v, VR r e.key v → v = v0 := fun v hvv => by
      rcases keyDesc hT with ⟨k, rfl⟩ | rfl
      · cases hT
        obtain ⟨k1, e1, e2⟩ := hvv.inv0 htag
        obtain ⟨k2, e3, e4⟩ := hv0.inv0 htag
        have := kindN_inj (e2.symm.trans e4)
        rw [e1, e3, this]
      · cases hT
        obtain ⟨s1, e1, e2⟩ := hvv.inv2 htag
        obtain ⟨s2, e3, e4⟩ := hv0.inv2 htag
        have : s1 = s2 := by
          cases s1; cases s2
          have := e2.symm.trans e4
          simp at this
          rw [this]
        rw [e1, e3, this]
    cases b with
    | true =>
      refine .inr ⟨e, List.mem_cons_self, h1, htag, ?_, fun v hvv => by rw [hall v hvv]; exact ⟨h3 rfl, h2⟩⟩
      have hkv : VR r e.key kv := h3 rfl ▸ hv0
      rw [key_one hk hkv ht htag hT]
    | false =>
      rcases findL_ok hT hk ht h1 (fun f hf => hv f (List.mem_cons_of_mem _ hf)) with ⟨h4, h5⟩ | ⟨f, h4, h5⟩
      · refine .inl ⟨h4, fun f hf v hvv => ?_⟩
        rcases List.mem_cons.1 hf with rfl | hf
        · rw [hall v hvv]; exact h2
        · exact h5 f hf v hvv
      · exact .inr ⟨f, List.mem_cons_of_mem _ h4, h5⟩
theorem findNow_all {kv : Value} : ∀ (Es : List MapEntry) (i : Nat), (∀ E ∈ Es, ∃ b, Instr.sameNow kd kv E.key = some b) →
    (Instr.findNow kd kv Es i = some none ∧ ∀ E ∈ Es, Instr.sameNow kd kv E.key = some false) ∨ (∃ j E, Instr.findNow kd kv Es i = some (some (j, E.val)) ∧ E ∈ Es ∧ Instr.sameNow kd kv E.key = some true)
  | [], i, _ => .inl ⟨rfl, fun _ h => by cases h⟩
  | E :: Es, i, h => by
    obtain ⟨b, hb⟩ := h E List.mem_cons_self
    cases b with
    | true => exact .inr ⟨i, E, by simp [Instr.findNow, hb], List.mem_cons_self, hb⟩
    | false =>
      rcases findNow_all Es (i + 1) (fun F hF => h F (List.mem_cons_of_mem _ hF)) with ⟨h1, h2⟩ | ⟨j, F, h1, h2, h3⟩
      · refine .inl ⟨by simp [Instr.findNow, hb, h1], fun F hF => ?_⟩
        rcases List.mem_cons.1 hF with rfl | hF
        · exact hb
        · exact h2 F hF
      · exact .inr ⟨j, F, by simp [Instr.findNow, hb, h1], List.mem_cons_of_mem _ h2, h3⟩
theorem pairwise_uniq {α β : Type} {f : α → β} : ∀ {l : List α}, (l.Pairwise fun x y => f x ≠ f y) → ∀ x ∈ l, ∀ y ∈ l, f x = f y → x = y
  | [], _, x, hx, _, _, _ => by cases hx
  | a :: l, hp, x, hx, y, hy, he => by
    obtain ⟨h1, h2⟩ := List.pairwise_cons.1 hp
    rcases List.mem_cons.1 hx with e1 | hx1 <;> rcases List.mem_cons.1 hy with e2 | hy1
    · exact e1.trans e2.symm
    · rw [e1] at he ⊢; exact absurd he (h1 y hy1)
    · rw [e2] at he ⊢; exact absurd he.symm (h1 x hx1)
    · exact pairwise_uniq h2 x hx1 y hy1 he
/-- A lookup in a literal. -/
theorem lit_find {key : AV} {kv : Value} {x : AV × AH} (hT : keyTag (some kd) = some T) (hk : VR r key kv) (ht : key.tag = T) {no : R} {yes : AV → R} {es : List ME} {Es : List MapEntry} (hf : findK key es no yes = some x)
    (h1 : ∀ E ∈ Es, ∃ e ∈ es, VR r e.key E.key ∧ VR r e.val E.val) (h2 : ∀ e ∈ es, ∃ E ∈ Es, VR r e.key E.key ∧ VR r e.val E.val) (hd : es.Pairwise fun e f => e.key ≠ f.key) (hg : ∀ e ∈ es, ∀ f ∈ es, e.key.tag = f.key.tag ∧ e.key.a = f.key.a) :
    (no = some x ∧ Instr.findNow kd kv Es 0 = some none) ∨ (∃ j a v, yes a = some x ∧ Instr.findNow kd kv Es 0 = some (some (j, v)) ∧ VR r a v) := by
  rcases findL_ok hT hk ht hf (fun e he => let ⟨E, _, q, _⟩ := h2 e he; ⟨_, q⟩) with ⟨g1, g2⟩ | ⟨e, he, g1, g2, g3, g4⟩
  · have hall : ∀ E ∈ Es, Instr.sameNow kd kv E.key = some false := fun E hE => by
      obtain ⟨e, q1, q2, -⟩ := h1 E hE
      exact g2 e q1 _ q2
    rcases findNow_all (kd := kd) (kv := kv) Es 0 (fun E hE => ⟨_, hall E hE⟩) with ⟨k1, -⟩ | ⟨j, E, -, k2, k3⟩
    · exact .inl ⟨g1, k1⟩
    · rw [hall E k2] at k3; cases k3
  · obtain ⟨E0, m1, m2, m3⟩ := h2 e he
    obtain ⟨m4, m5⟩ := g4 _ m2
    have hdef : ∀ E ∈ Es, ∃ b, Instr.sameNow kd kv E.key = some b ∧ (b = true → VR r e.val E.val) := fun E hE => by
      obtain ⟨e', q1, q2, q3⟩ := h1 E hE
      obtain ⟨t1, t2⟩ := hg e' q1 e he
      have hsome : ∃ y : AV × AH, keyEq key e'.key (fun b => ifB b (some (.bool true, ⟨.nil, 0⟩)) (some (.bool false, ⟨.nil, 0⟩))) = some y := by
        unfold keyEq
        rw [ht, t1, g2, Nat.beq_refl, ifB_t, t2, g3, Nat.beq_refl, ifB_t]
        rcases keyDesc hT with ⟨k, rfl⟩ | rfl
        · cases hT
          rw [Nat.beq_refl, ifB_t]
          cases intEq key.i e'.key.i <;> exact ⟨_, rfl⟩
        · cases hT
          rw [show Nat.beq 2 0 = false from rfl, ifB_f, Nat.beq_refl, ifB_t]
          cases strEq key.s e'.key.s <;> exact ⟨_, rfl⟩
      obtain ⟨y, hy⟩ := hsome
      obtain ⟨b, -, s2, s3⟩ := key_ok hT hk q2 ht hy
      refine ⟨b, s2, fun hb => ?_⟩
      have e1 : VR r e'.key kv := s3 hb ▸ q2
      have e2 : VR r e.key kv := m4 ▸ m2
      have e3 := key_one e1 e2 (t1.trans g2) g2 hT
      rw [← pairwise_uniq (f := ME.key) hd e' q1 e he e3]
      exact q3
    rcases findNow_all (kd := kd) (kv := kv) Es 0 (fun E hE => let ⟨b, q, _⟩ := hdef E hE; ⟨b, q⟩) with ⟨-, k2⟩ | ⟨j, E, k1, k2, k3⟩
    · rw [k2 E0 m1] at m5; cases m5
    · obtain ⟨b, q1, q2⟩ := hdef E k2
      rw [k3] at q1
      cases q1
      exact .inr ⟨j, e.val, E.val, g1, k1, q2 rfl⟩

theorem lookup_ok {ty kt e : TypeId} {x k : Operand} {z : AV} {ok : Bool} (ho : o.op = .lookup ty x k ok) (ht : P.underlying ty = some (.map kt e)) (hu : P.underlying kt = some kd) (hT : keyTag (some kd) = some T) (hz : zeroVA P e = some z) : PlOk P o (lookupC T (evB x).f (evB k).f z ok) := by
  intro t h K y r a w N hf hr he
  have hx := he x (by simp [ho, Op.operands])
  have hk := he k (by simp [ho, Op.operands])
  obtain ⟨h1, hf⟩ := ifB_some hf
  obtain ⟨h2, hf⟩ := ifB_some hf
  obtain ⟨zv, hz1, hz2⟩ := zeroVA_run (r := r) (w := w) hz
  have fin : ∀ (b : Bool) (v : AV) (u : Value), VR r v u → VR r (ifB ok (.tup [v, .bool b]) v) (if ok then .tuple #[u, .bool b] else u) := fun b v u hv => by
    cases ok with
    | true => exact .tup #[u, .bool b] (.cons hv (.cons (.bool b) .nil))
    | false => exact hv
  cases h3 : Nat.beq ((evB x).f t).a 0 with
  | true =>
    rw [h3, ifB_t] at hf
    have hm := (hx.inv5n (beq_of h1) (by rw [beq_of h3]; decide)).1
    refine ⟨_, _, hf, PDoes.pure hr (fin false _ _ hz2) ?_⟩
    simp [execOp, ho, hm, Instr.lookup, run_underlying ht, run_checkKey hu hT, run_findKey (es := []) (x := none) hu rfl, hz1]
  | false =>
    rw [h3, ifB_f] at hf
    obtain ⟨ob, h4, hf⟩ := optK_some hf
    by_cases h5 : ((evB x).f t).a = 1
    · obtain ⟨p, h6, h7⟩ := hx.inv5 (beq_of h1) h5
      cases h8 : Nat.beq ob.kind 1 with
      | false =>
        rw [h8, ifB_f] at hf
        obtain ⟨h9, hf⟩ := ifB_some hf
        have hl := hr.live _ _ _ h4 h6
        cases hl with
        | arr _ _ _ _ _ _ => cases h9
        | map _ _ _ => cases h9
        | iter _ _ _ => cases h9
        | loop _ _ _ _ _ _ _ _ => cases h9
        | lit c1 l1 l2 l3 l4 =>
          rcases lit_find hT hk (beq_of h2) hf l1 l2 l3 l4 with ⟨hf, g1⟩ | ⟨j, a', v', hf, g3, g4⟩
          · refine ⟨_, _, hf, PDoes.pure hr (fin false _ _ hz2) ?_⟩
            simp [execOp, ho, h7, Instr.lookup, run_underlying ht, run_getMap c1, run_checkKey hu hT, run_findKey hu g1, hz1]
          · refine ⟨_, _, hf, PDoes.pure hr (fin true _ _ g4) ?_⟩
            simp [execOp, ho, h7, Instr.lookup, run_underlying ht, run_getMap c1, run_checkKey hu hT, run_findKey hu g3]
      | true =>
        rw [h8, ifB_t] at hf
        obtain ⟨cur, c1, c2, c3⟩ := map_live hr h4 (beq_of h8) h6
        rcases find_ok hT hk (beq_of h2) 0 hf c2 with ⟨hf, g1⟩ | ⟨j, e', E', hf, g1, g2, g3, g4⟩
        · refine ⟨_, _, hf, PDoes.pure hr (fin false _ _ hz2) ?_⟩
          simp [execOp, ho, h7, Instr.lookup, run_underlying ht, run_getMap c1, run_checkKey hu hT, run_findKey hu g1, hz1]
        · refine ⟨_, _, hf, PDoes.pure hr (fin true _ _ g4) ?_⟩
          simp [execOp, ho, h7, Instr.lookup, run_underlying ht, run_getMap c1, run_checkKey hu hT, run_findKey hu g3]
    · have h7 := (hx.inv5n (beq_of h1) h5).2
      rw [h7] at h3
      cases h3

theorem update_ok {ty kt e : TypeId} {x k v : Operand} (ho : o.op = .mapUpdate ty x k v ∨ o.op = .insert ty x k v) (ht : P.underlying ty = some (.map kt e)) (hu : P.underlying kt = some kd) (hT : keyTag (some kd) = some T) : OpOk P o (updateC T (evB x).f (evB k).f (evB v).f) := by
  intro t h K y r a w hf hr he
  have hx := he x (by rcases ho with ho | ho <;> simp [ho, Op.operands])
  have hk := he k (by rcases ho with ho | ho <;> simp [ho, Op.operands])
  have hv := he v (by rcases ho with ho | ho <;> simp [ho, Op.operands])
  have hrun : ∀ w', (Instr.mapUpdate ty (a.eval x) (a.eval k) (a.eval v)).run P w = .ok () w' → (execOp a.eval o).run P w = .ok .skip w' := fun w' hw => by
    rcases ho with ho | ho <;> simp [execOp, ho, hw]
  obtain ⟨h1, hf⟩ := ifB_some hf
  obtain ⟨h3, hf⟩ := ifB_some hf
  obtain ⟨h2, hf⟩ := ifB_some hf
  obtain ⟨ob, h4, hf⟩ := optK_some hf
  obtain ⟨h8, hf⟩ := ifB_some hf
  obtain ⟨p, h6, h7⟩ := hx.inv5 (beq_of h1) (beq_of h3)
  obtain ⟨cur, c1, c2, c3⟩ := map_live hr h4 (beq_of h8) h6
  have hlt : p.blk < w.heap.size := (Array.getElem?_eq_some_iff.1 c1).1
  rcases find_ok hT hk (beq_of h2) 0 hf c2 with ⟨hf, g1⟩ | ⟨-, -, -, hf, -, -, -, -⟩
  · refine ⟨_, _, hf, r, _, undef, .inr ⟨hrun _ ?_, rfl⟩, VR.undef, post_wobj hr h4 h6 (O := .map (cur.push { key := a.eval k, val := a.eval v, born := ob.n }) (ob.n + 1)) (.map (wobj_get hlt) ?_ fun e' he' => ?_)⟩
    · rw [h7]
      simp [Instr.mapUpdate, run_underlying ht, run_getMap c1, run_checkKey hu hT, run_findKey hu g1, run_setMap c1]
    · rw [Array.toList_push]
      exact c2.append (.cons hk hv rfl .nil)
    · rcases List.mem_append.1 he' with h | h
      · have := c3 _ h; omega
      · simp at h
        subst h
        simp
  · obtain ⟨j, e', E', hf, g1, g2, g3, g4⟩ := upd_ok hT hk (beq_of h2) 0 hf c2
    rw [Nat.zero_add] at g3
    have g2' : cur[j]? = some E' := by simpa using g2
    have hsame : Instr.sameBits 10000 E'.key (a.eval k) = true := by
      rw [g4]
      unfold keyTag at hT
      split at hT
      · cases hT
        obtain ⟨k1, h, -⟩ := hk.inv0 (beq_of h2)
        rw [h]
        simp [Instr.sameBits]
      · cases hT
        obtain ⟨s, h, -⟩ := hk.inv2 (beq_of h2)
        rw [h]
        exact (bytes_beq s s).2 rfl
      · cases hT
    refine ⟨_, _, hf, r, _, undef, .inr ⟨hrun _ ?_, rfl⟩, VR.undef, post_wobj hr h4 h6 (O := .map (cur.modify j fun e => { e with key := a.eval k, val := a.eval v }) ob.n) (.map (wobj_get hlt) ?_ fun e2 he2 => ?_)⟩
    · rw [h7]
      simp [Instr.mapUpdate, run_underlying ht, run_getMap c1, run_checkKey hu hT, run_findKey hu g3, g2', Instr.keyThatStays, hsame, run_setMap c1]
    · have e3 : (cur.modify j fun e => { e with key := a.eval k, val := a.eval v }).toList = cur.toList.set j { E' with key := a.eval k, val := a.eval v } := by
        apply List.ext_getElem?
        intro i
        rw [Array.getElem?_toList, Array.getElem?_modify, List.getElem?_set]
        by_cases hij : j = i
        · subst hij
          have := (List.getElem?_eq_some_iff.1 g2).1
          rw [if_pos rfl, if_pos rfl, if_pos this, g2']
          rfl
        · rw [if_neg hij, if_neg hij, Array.getElem?_toList]
      rw [e3]
      have hb : E'.born = e'.born := c2.born g1 g2
      exact c2.set hk hv hb
    · rcases List.mem_or_eq_of_mem_set he2 with h | h
      · exact c3 _ h
      · subst h
        have := c3 e' (List.mem_of_getElem? g1)
        exact this
end
end Go.Proofs.YtinpopjnnljkhaaGreatDoor
/- The machine for closed runs: bytes of strings, new rows, ranges over maps. -/
namespace Go.Proofs.YtinpopjnnljkhaaGreatDoor

theorem freeze_new (w : World) (cs : Array Value) (e : TypeId) (n : Nat) : (w.alloc (.cells cs e)).freeze ⟨w.heap.size, n, none⟩ 1 = w.alloc (.cells cs e (n, n + 1)) := by
  have : ((w.heap.push (.cells cs e)).modify w.heap.size fun
      | .cells c elem (lo, hi) => .cells c elem (if lo == hi then (n, n + 1) else (min lo n, max hi (n + 1)))
      | o => o) = w.heap.push (.cells cs e (n, n + 1)) := by
    apply Array.ext_getElem?
    intro i
    rw [Array.getElem?_modify, Array.getElem?_push, Array.getElem?_push]
    by_cases hi : w.heap.size = i
    · rw [if_pos hi, if_pos hi.symm, if_pos hi.symm]
      rfl
    · rw [if_neg hi, if_neg (Ne.symm hi), if_neg (Ne.symm hi)]
  exact congrArg (fun h => ({ w with heap := h } : World)) this
theorem freeze_old {w : World} {b n : Nat} {cs : Array Value} {e : TypeId} {fz : Nat × Nat} (h : w.heap[b]? = some (.cells cs e fz)) : w.freeze ⟨b, n, none⟩ 1 = wcells w b cs e (if fz.1 == fz.2 then (n, n + 1) else (min fz.1 n, max fz.2 (n + 1))) := by
  have hlt := (Array.getElem?_eq_some_iff.1 h).1
  have : (w.heap.modify b fun
      | .cells c elem (lo, hi) => .cells c elem (if lo == hi then (n, n + 1) else (min lo n, max hi (n + 1)))
      | o => o) = w.heap.setIfInBounds b (.cells cs e (if fz.1 == fz.2 then (n, n + 1) else (min fz.1 n, max fz.2 (n + 1)))) := by
    apply Array.ext_getElem?
    intro i
    rw [Array.getElem?_modify]
    by_cases hi : b = i
    · subst hi
      rw [if_pos rfl, h]
      simp [hlt]
    · rw [if_neg hi, Array.getElem?_setIfInBounds_ne hi]
  exact congrArg (fun h => ({ w with heap := h } : World)) this

section
variable {P : Program} {o : Oper}
theorem strBytes_ok {src dst e : TypeId} {x : Operand} (ho : o.op = .convert src dst x) (hs : P.underlying src = some .string) (hd : P.underlying dst = some (.slice e)) (he8 : P.underlying e = some (.int .u8)) (hz : szA P e = some 1) :
    OpOk P o (fun t h k => ifB (Nat.beq ((evB x).f t).tag 2) (ifB (Nat.ble ((evB x).f t).s.length 1000000) (k (.slc h.next 0 ((evB x).f t).s.length capU) (h.new (.arr (((evB x).f t).s.map fun b => .int 1 b.toNat) e))) none) none) := by
  intro t h k z r a w hf hr he
  obtain ⟨h1, hf⟩ := ifB_some hf
  obtain ⟨hbig, hf⟩ := ifB_some hf
  obtain ⟨s, q1, q2⟩ := (he x (by simp [ho, Op.operands])).inv2 (beq_of h1)
  have hbig := Nat.le_of_ble_eq_true hbig
  have hsz : ((evB x).f t).s.length = s.size := by rw [q2]; rfl
  rw [hsz] at hf hbig
  have hlst : VRs r (((evB x).f t).s.map fun b => AV.int 1 b.toNat) (s.data.map fun b => Value.int .u8 b.toNat).toList := by
    rw [q2, Array.toList_map]
    generalize s.data.toList = l
    induction l with
    | nil => exact .nil
    | cons b l ih => exact .cons (.int .u8 _) ih
  have hll := hlst.length
  have hd0 := Post.drew hr
  obtain ⟨cap, hcap⟩ : ∃ c, grownCap w s.size 0 e = c := ⟨_, rfl⟩
  have hge : s.size ≤ cap := by rw [← hcap]; exact grownCap_ge w s.size 0 e
  obtain ⟨cs, hcs⟩ : ∃ cs, (s.data.map fun b => Value.int .u8 b.toNat) ++ Array.replicate (cap - s.size) (Value.int .u8 0) = cs := ⟨_, rfl⟩
  have hcsz : cs.size = cap := by
    rw [← hcs]
    have : s.data.size = s.size := rfl
    simp [this]
    omega
  have hp : Post P r h w.drew (r.set h.next ⟨w.heap.size, 0, cap, 1⟩) (h.new (.arr (((evB x).f t).s.map fun b => .int 1 b.toNat) e)) (w.drew.alloc (.cells cs e (cs.size, cs.size + 1))) := by
    refine Post.alloc hd0.rel rfl (.arr (heap_push_new w.drew _) (.inr (Nat.le_refl _)) hcsz ?_ hz fun j av hj => ?_)
    · simp [hsz, hge]
    · obtain ⟨v, g1, g2⟩ := hlst.get hj
      have hjl := (List.getElem?_eq_some_iff.1 g1).1
      refine ⟨v, ?_, g2.mono (r.le_set _ hr.fresh)⟩
      rw [← hcs, Nat.zero_add, Array.getElem?_append_left (by simpa using hjl)]
      simpa using g1
  have hmax : cap ≤ 9223372036854775807 := by rw [← hcap]; exact grownCap_le_maxLen w s.size 0 e (by simp only [maxLen]; omega)
  · refine ⟨_, _, hf, _, _, _, .inl ?_, .slc (p := ⟨w.heap.size, 0, cap, 1⟩) (Ren.set_same _ _ _) hge (.inl rfl) (.inr rfl) (by simp) (Nat.le_refl _) hmax, hd0.trans hp⟩
    have hsh : (w.drew.alloc (.cells cs e)).shape? w.heap.size = some (e, cs.size) := by
      have := heap_push_new w.drew (.cells cs e)
      simp only [World.shape?]
      rw [show w.heap.size = w.drew.heap.size from rfl, this]
    have hfr := freeze_new w.drew cs e cs.size
    have hfr' : (w.drew.alloc (.cells cs e)).freeze ⟨w.heap.size, cs.size, none⟩ 1 = w.drew.alloc (.cells cs e (cs.size, cs.size + 1)) := hfr
    simp only [execOp, ho, q1, Sem.run_bind, convert, run_underlying hs, run_underlying hd, run_underlying he8, Result.andThen_ok, Conv.stringToBytes, run_choose, Question.forced, Bool.false_eq_true, if_false, World.drew_eq]
    rw [show (Question.appendCap s.size 0 e).cut (w.tape w.drawn (.appendCap s.size 0 e)) = cap from hcap, hcs]
    simp only [newRow, Sem.run_bind, run_newObj, Result.andThen_ok, World.alloc_eq, Sem.run_pure, markStringish, run_shape]
    rw [show w.drew.heap.size = w.heap.size from rfl, hsh]
    simp only [run_freeze, hfr', Result.andThen_ok, Sem.run_pure, Nat.add_zero]

theorem sameBytes_ok {src e e' : TypeId} {x : Operand} (ho : o.op = .convert src src x) (hs : P.underlying src = some (.slice e)) (he8 : P.underlying e = some (.int .u8)) :
    OpOk P o (fun t h k => ifB (Nat.beq ((evB x).f t).tag 4) (ifB (Nat.beq ((evB x).f t).a 1) (optK none (h.get ((evB x).f t).b) fun o => ifB (Nat.beq o.kind 0) (k ((evB x).f t) h) none) none) none) := by
  intro t h k z r a w hf hr he
  have hx := he x (by simp [ho, Op.operands])
  obtain ⟨h1, hf⟩ := ifB_some hf
  obtain ⟨h2, hf⟩ := ifB_some hf
  obtain ⟨ob, h3, hf⟩ := optK_some hf
  obtain ⟨h4, hf⟩ := ifB_some hf
  obtain ⟨p, o', c', q1, q2, q3, q4, q5, q6, q7, q8⟩ := hx.inv4 (beq_of h1) (beq_of h2)
  obtain ⟨cur, fz, c1, c2, c3, c4, c5, c6, c7⟩ := (hr.live _ _ _ h3 q1).cells (beq_of h4)
  have hlt := (Array.getElem?_eq_some_iff.1 c1).1
  have hsh : w.shape? p.blk = some (ob.n, cur.size) := by simp [World.shape?, c1]
  have hobj : h.put ((evB x).f t).b (some ob) = h.put ((evB x).f t).b (some ob) := rfl
  have hp := Post.put (P := P) hr h3 q1 (w' := w.freeze ⟨p.blk, cur.size, none⟩ 1) (o' := ob) (by rw [freeze_old c1, wcells_size]) (fun b hb => by rw [freeze_old c1]; exact wcells_ne _ _ _ hb) (by
    rw [c7, freeze_old c1]
    refine .arr (wcells_get _ _ _ hlt) ?_ c3 c4 c5 fun j a hj => c6 j a hj
    right
    split
    · exact Nat.le_refl _
    · rename_i hne
      rcases c2 with rfl | c2
      · simp at hne
      · simp only [Nat.le_min]
        exact ⟨c2, Nat.le_refl _⟩) (by rw [freeze_old c1]; rfl) (by rw [freeze_old c1]; rfl) (by rw [freeze_old c1]; rfl)
  -- the machine's memory stays as it was
  have hp' : Post P r h w r h (w.freeze ⟨p.blk, cur.size, none⟩ 1) := by
    have same : ∀ j, (h.put ((evB x).f t).b (some ob)).get j = h.get j := fun j => by
      rw [AH.get_put]
      split
      · rename_i hj
        rw [hj.1, h3]
      · rfl
    have hrel := hp.rel
    refine ⟨⟨fun i o hi => hrel.small i o ((same i).trans hi), fun i o q hi hq => hrel.live i o q ((same i).trans hi) hq, fun i j o o' p q h1 h2 => hrel.inj i j o o' p q ((same i).trans h1) ((same j).trans h2), hrel.dom, hr.top⟩, hp.ext, hp.new, hp.nxt, hp.size, hp.frame, fun i o q hi hq => hp.own i o q ((same i).trans hi) hq, fun _ _ _ => rfl, hp.os, hp.tape, hp.output⟩
  refine ⟨_, _, hf, r, _, _, .inl ?_, hx, hp'⟩
  simp [execOp, ho, q2, convert, run_underlying hs, run_underlying he8, markStringish, hsh]

theorem makeSlice_ok {ty e : TypeId} {l c : Operand} {z : List AV} {s : Nat} (ho : o.op = .makeSlice ty l c) (ht : P.underlying ty = some (.slice e)) (hz : zeroA P e = some z) (hs : szA P e = some s) (hk : okRow P e = true) :
    LateOk P o (fun t h k => ifB (Nat.beq ((evB l).f t).tag 0) (ifB (Nat.beq ((evB c).f t).tag 0) (natK none ((evB l).f t).i fun n => natK none ((evB c).f t).i fun m => ifB (Nat.ble n m) (ifB (Nat.ble m 1000000) (k (.slc h.next 0 n m) (h.new (.arr (repA z m) e))) none) none) none) none) := by
  refine ⟨fun t h k y hf => ?_, fun t h k y r a hf he => ?_⟩
  · obtain ⟨h1, hf⟩ := ifB_some hf
    obtain ⟨h2, hf⟩ := ifB_some hf
    obtain ⟨n, h3, hf⟩ := natK_some hf
    obtain ⟨m, h4, hf⟩ := natK_some hf
    obtain ⟨h5, hf⟩ := ifB_some hf
    obtain ⟨h6, hf⟩ := ifB_some hf
    exact ⟨_, _, hf⟩
  obtain ⟨h1, hf⟩ := ifB_some hf
  obtain ⟨h2, hf⟩ := ifB_some hf
  obtain ⟨n, h3, hf⟩ := natK_some hf
  obtain ⟨m, h4, hf⟩ := natK_some hf
  obtain ⟨h5, hf⟩ := ifB_some hf
  obtain ⟨h6, hf⟩ := ifB_some hf
  have h5 := Nat.le_of_ble_eq_true h5
  have h6 := Nat.le_of_ble_eq_true h6
  obtain ⟨kl, q1, -⟩ := (he l (by simp [ho, Op.operands])).inv0 (beq_of h1)
  obtain ⟨kc, q2, -⟩ := (he c (by simp [ho, Op.operands])).inv0 (beq_of h2)
  rw [h3] at q1
  rw [h4] at q2
  obtain ⟨i, zv, k1, k2, k3, k4, k5, k6, k7⟩ := okRow_some hk hs
  obtain ⟨v, -, rfl, i', g2, g3⟩ := run_zero (P := P) (w := { heap := #[], tape := fun _ _ => 0, drawn := 0, os := default, output := #[] }) hz
  rw [k1] at g2; cases g2
  rw [k3] at g3; cases g3
  have hb : i.bytes * m ≤ 1000 * 1000000 := Nat.mul_le_mul k6 h6
  have hb' : ((i.bytes : Int) * (m : Int)) ≤ 1000000000 := by
    rw [← Int.natCast_mul]
    exact Int.ofNat_le.2 hb
  have w1 : IntKind.i64.wrap (n : Int) = n := wrap_in _ (by omega) (by omega)
  have w2 : IntKind.i64.wrap (m : Int) = m := wrap_in _ (by omega) (by omega)
  have hv : VRs r (repA (zv.cells.toList.map ofV1) m) ((Array.range (m * s)).map (fun x => (if m * s = 0 then #[] else zv.cells)[x % (if m * s = 0 then #[] else zv.cells).size]!)).toList := by
    rcases Nat.eq_zero_or_pos m with h0 | h0
    · subst h0
      have e0 : (Array.range (0 * s)) = #[] := by rw [Nat.zero_mul]; rfl
      have e1 : ∀ f : Nat → Value, (Array.map f #[]).toList = [] := fun f => by simp
      rw [e0, e1]
      exact .nil
    · have h0 : ¬ m * s = 0 := Nat.ne_of_gt (Nat.mul_pos h0 k7)
      simp only [if_neg h0]
      have := rep_VRs (r := r) (zv := zv.cells) (n := m) (.inl (by rw [k4]; exact k7))
      rw [k4] at this ⊢
      exact this
  refine ⟨_, _, hf, fun w g hr hn hi hob => ⟨_, _, _, ?_, .slc (Ren.set_same _ _ _) h5 (.inr rfl) (.inr rfl) (by rw [Array.size_map, Array.size_range]; show 0 + m * s ≤ m * s; omega) (Nat.le_refl _) (by omega), late_cells hr hn hi hob hv hs⟩⟩
  obtain ⟨v2, g1, -, i2, g2, g3⟩ := run_zero (P := P) (w := w) hz
  rw [k1] at g2; cases g2
  rw [k3] at g3; cases g3
  have hcond : ¬ ((decide ((m : Int) < 0) || decide ((i.bytes : Int) * (m : Int) > 2 ^ 48) || decide ((n : Int) < 0) || decide ((n : Int) > (m : Int))) = true) := by
    simp only [Bool.or_eq_true, decide_eq_true_eq]
    rintro (((h | h) | h) | h) <;> omega
  simp only [execOp, ho, q1, q2, Instr.makeSlice, Sem.run_bind, run_underlying ht, Result.andThen_ok, asInt, asIntOf, Sem.run_pure, run_info k1, w1, w2, if_neg hcond]
  by_cases h0 : m * s = 0
  · simp only [if_pos h0]
    simp [run_size hs, h0, newRow]
  · simp only [if_neg h0]
    simp [run_size hs, h0, newRow, g1]
end
end Go.Proofs.YtinpopjnnljkhaaGreatDoor
/- The machine for closed runs: ranges over maps. -/
namespace Go.Proofs.YtinpopjnnljkhaaGreatDoor

section
variable {P : Program} {o : Oper} {r : Ren}
theorem range_ok {ty kt e : TypeId} {x : Operand} (ho : o.op = .range ty x) (ht : P.underlying ty = some (.map kt e)) : OpOk P o (rangeC (evB x).f) := by
  intro t h k z r a w hf hr he
  have hx := he x (by simp [ho, Op.operands])
  obtain ⟨h1, hf⟩ := ifB_some hf
  obtain ⟨h2, hf⟩ := ifB_some hf
  obtain ⟨ob, h3, hf⟩ := optK_some hf
  obtain ⟨h4, hf⟩ := ifB_some hf
  obtain ⟨p, h5, h6⟩ := hx.inv5 (beq_of h1) (beq_of h2)
  obtain ⟨cur, c1, c2, c3⟩ := map_live hr h3 (beq_of h4) h5
  refine ⟨_, _, hf, _, _, _, .inl ?_, .ptr (p := ⟨w.heap.size, 0, 0, 0⟩) 0 (Ren.set_same _ _ _), Post.alloc (O := .mapIter (some p.blk) ob.n #[] ob.n) hr rfl (.iter (pm := p) (heap_push_new w _) (r.le_set _ hr.fresh _ _ h5) rfl)⟩
  simp [execOp, ho, h6, Instr.range, run_underlying ht, run_getMap c1]

theorem iterK_some {h : AH} {p : AV} {k : OB → OB → R} {x : AV × AH} (hf : iterK h p k = some x) : p.tag = 3 ∧ p.a = 1 ∧ p.c = 0 ∧ ∃ i m, h.get p.b = some i ∧ i.kind = 3 ∧ h.get i.n = some m ∧ m.kind = 1 ∧ m.n = i.m ∧ k i m = some x := by
  obtain ⟨h1, hf⟩ := ifB_some hf
  obtain ⟨h2, hf⟩ := ifB_some hf
  obtain ⟨h3, hf⟩ := ifB_some hf
  obtain ⟨i, h4, hf⟩ := optK_some hf
  obtain ⟨h5, hf⟩ := ifB_some hf
  obtain ⟨m, h6, hf⟩ := optK_some hf
  obtain ⟨h7, hf⟩ := ifB_some hf
  obtain ⟨h8, hf⟩ := ifB_some hf
  exact ⟨beq_of h1, beq_of h2, beq_of h3, i, m, h4, beq_of h5, h6, beq_of h7, beq_of h8, hf⟩
theorem iter_live {h : AH} {w : World} (hr : Rel P r h w) {i : Nat} {ob : OB} {p : Pl} (hg : h.get i = some ob) (hk : ob.kind = 3) (hp : r i = some p) : ∃ pm, w.heap[p.blk]? = some (.mapIter (some pm.blk) ob.m ob.ns.reverse.toArray ob.m) ∧ r ob.n = some pm ∧ p.base = 0 ∧ ob = .iter ob.n ob.m ob.ns := by
  have := hr.live _ _ _ hg hp
  cases this with
  | arr _ _ _ _ _ _ => cases hk
  | map _ _ _ => cases hk
  | lit _ _ _ _ _ => cases hk
  | iter h1 h2 h3 => exact ⟨_, h1, h2, h3, rfl⟩
  | loop _ _ _ _ _ _ _ _ => cases hk
theorem left_ok {seen : List Nat} {x : AV × AH} {no : R} {one : ME → R} : ∀ {es : List ME}, leftK seen es no one = some x →
    (no = some x ∧ ∀ e ∈ es, seen.elem e.born = true) ∨ (∃ pre e post, es = pre ++ e :: post ∧ (∀ e ∈ pre, seen.elem e.born = true) ∧ seen.elem e.born = false ∧ (∀ e ∈ post, seen.elem e.born = true) ∧ one e = some x)
  | [], hf => .inl ⟨hf, fun _ h => by cases h⟩
  | e :: es, hf => by
    cases hs : seen.elem e.born with
    | true =>
      have hf' : ifB (seen.elem e.born) (leftK seen es no one) (ifB (es.all fun e => seen.elem e.born) (one e) none) = some x := hf
      rw [hs, ifB_t] at hf'
      rcases left_ok hf' with ⟨h1, h2⟩ | ⟨pre, e', post, h1, h2, h3⟩
      · exact .inl ⟨h1, fun f hf => (List.mem_cons.1 hf).elim (fun q => q ▸ hs) (h2 f)⟩
      · exact .inr ⟨e :: pre, e', post, by rw [h1]; rfl, fun f hf => (List.mem_cons.1 hf).elim (fun q => q ▸ hs) (h2 f), h3⟩
    | false =>
      have hf' : ifB (seen.elem e.born) (leftK seen es no one) (ifB (es.all fun e => seen.elem e.born) (one e) none) = some x := hf
      rw [hs, ifB_f] at hf'
      obtain ⟨h1, h2⟩ := ifB_some hf'
      exact .inr ⟨[], e, es, rfl, (by intro _ h; cases h), hs, fun f hf => List.all_eq_true.1 h1 f hf, h2⟩
theorem MEs.split : ∀ {pre : List ME} {e : ME} {post : List ME} {Es : List MapEntry}, MEs r (pre ++ e :: post) Es → ∃ Pre E Post, Es = Pre ++ E :: Post ∧ MEs r pre Pre ∧ VR r e.key E.key ∧ VR r e.val E.val ∧ E.born = e.born ∧ MEs r post Post
  | [], e, post, _, .cons hk hv hb t => ⟨[], _, _, rfl, .nil, hk, hv, hb, t⟩
  | f :: pre, e, post, _, .cons hk hv hb t => by
    obtain ⟨Pre, E, Post, h1, h2, h3⟩ := MEs.split t
    exact ⟨_ :: Pre, E, Post, by rw [h1]; rfl, .cons hk hv hb h2, h3⟩
theorem MEs.mem : ∀ {es : List ME} {Es : List MapEntry}, MEs r es Es → ∀ E ∈ Es, ∃ e ∈ es, E.born = e.born
  | _, _, .nil, _, h => by cases h
  | _, _, .cons _ _ hb t, E, h => by
    rcases List.mem_cons.1 h with rfl | h
    · exact ⟨_, by simp, hb⟩
    · obtain ⟨e, h1, h2⟩ := MEs.mem t E h
      exact ⟨e, by simp [h1], h2⟩

theorem next_ok {x : Operand} (ho : o.op = .next x false) : OpOk P o (nextC (evB x).f) := by
  intro t h k z r a w hf hr he
  have hx := he x (by simp [ho, Op.operands])
  obtain ⟨h1, h2, h3, i, m, h4, h5, h6, h7, h8, hf⟩ := iterK_some hf
  obtain ⟨p, q1, q2, q3⟩ := hx.inv3 h1 h2
  obtain ⟨pm, c1, c2, c3, c4⟩ := iter_live hr h4 h5 q1
  obtain ⟨cur, d1, d2, d3⟩ := map_live hr h6 h7 c2
  rw [c3, h3] at q2
  rw [h8] at d1 d3
  have hgi : (getObj p.blk).run P w = .ok (.mapIter (some pm.blk) i.m i.ns.reverse.toArray i.m) w := by simp [getObj, Sem.run, c1]
  have hborn : ∀ E ∈ cur, E.born < i.m := fun E hE => by
    obtain ⟨e, g1, g2⟩ := d2.mem E (by simpa using hE)
    rw [g2]
    exact d3 e g1
  have hall : (!i.ns.reverse.toArray.isEmpty && !cur.isEmpty && cur.all (fun e => decide (e.born ≥ i.m))) = false := by
    rw [Bool.and_eq_false_iff]
    by_cases hc : cur.isEmpty = true
    · left; simp [hc]
    · right
      rw [Bool.eq_false_iff]
      intro hh
      have hne : 0 < cur.size := by
        rcases Nat.eq_zero_or_pos cur.size with h0 | h0
        · exact absurd (by simpa using h0) hc
        · exact h0
      have h9 := (Array.all_eq_true.1 hh) 0 hne
      have h10 := hborn cur[0] (Array.getElem_mem hne)
      simp at h9
      omega
  have hcont : ∀ n, i.ns.reverse.toArray.contains n = i.ns.elem n := fun n => by simp
  have hfilt : (cur.filter fun e => !i.ns.reverse.toArray.contains e.born).toList = cur.toList.filter fun e => !i.ns.elem e.born := by
    simp only [Array.toList_filter, hcont]
  rcases left_ok hf with ⟨hf, g1⟩ | ⟨pre, e, post, g1, g2, g3, g4, hf⟩
  · have hl : (cur.filter fun e => !i.ns.reverse.toArray.contains e.born) = #[] := by
      apply Array.ext'
      rw [hfilt]
      rw [List.filter_eq_nil_iff]
      intro E hE
      obtain ⟨e, g2, g3⟩ := d2.mem E hE
      simp [g3, g1 e g2]
      simpa using g1 e g2
    refine ⟨_, _, hf, r, w, .tuple #[.bool false], .inl ?_, .tup _ (.cons (.bool false) .nil), Post.refl hr⟩
    simp only [execOp, ho, q2, Instr.next, Sem.run_bind, hgi, Result.andThen_ok, run_getMap d1, hall, hl]
    simp [Question.forced]
  · rw [g1] at d2
    obtain ⟨Pre, E, Post, e1, e2, e3, e4, e5, e6⟩ := d2.split
    have hl : (cur.filter fun e => !i.ns.reverse.toArray.contains e.born) = #[E] := by
      apply Array.ext'
      rw [hfilt, e1, List.filter_append, List.filter_cons]
      have f1 : Pre.filter (fun e => !i.ns.elem e.born) = [] := by
        rw [List.filter_eq_nil_iff]
        intro E hE
        obtain ⟨e', g5, g6⟩ := e2.mem E hE
        rw [g6, g2 e' g5]
        simp
      have f2 : Post.filter (fun e => !i.ns.elem e.born) = [] := by
        rw [List.filter_eq_nil_iff]
        intro E hE
        obtain ⟨e', g5, g6⟩ := e6.mem E hE
        rw [g6, g4 e' g5]
        simp
      rw [f1, f2, e5, g3]
      rfl
    have hEb : E.born < i.m := hborn E (by
      have : E ∈ cur.toList := by rw [e1]; simp
      simpa using this)
    have hlt : p.blk < w.heap.size := (Array.getElem?_eq_some_iff.1 c1).1
    have hset : (setObj p.blk (.mapIter (some pm.blk) i.m (i.ns.reverse.toArray.push E.born) i.m)).run P w = .ok () (wobj w p.blk (.mapIter (some pm.blk) i.m (i.ns.reverse.toArray.push E.born) i.m)) := by
      simp [setObj, Sem.run, c1, wobj]
    refine ⟨_, _, hf, r, _, .tuple #[.bool true, E.key, E.val], .inl ?_, .tup _ (.cons (.bool true) (.cons e3 (.cons e4 .nil))), post_wobj hr h4 q1 (O := .mapIter (some pm.blk) i.m (i.ns.reverse.toArray.push E.born) i.m) (.iter (pm := pm) ?_ c2 c3)⟩
    · simp only [execOp, ho, q2, Instr.next, Sem.run_bind, hgi, Result.andThen_ok, run_getMap d1, hall, hl]
      have hold : (#[E].filter fun e => decide (e.born < i.m)) = #[E] := by simp [List.filter, hEb]
      have hnew : (#[E].filter fun e => decide (e.born ≥ i.m)) = #[] := by simp [List.filter, Nat.not_le.2 hEb]
      simp only [hold, hnew]
      simp at hset
      simp [Question.forced, hset]
    · rw [wobj_get hlt, ← e5]
      simp
theorem born_ok {b : Nat} {x : AV × AH} {k : ME → R} : ∀ {es : List ME} {Es : List MapEntry}, bornK b es k = some x → MEs r es Es → ∃ e E, k e = some x ∧ Es.find? (fun e => e.born == b) = some E ∧ VR r e.key E.key ∧ VR r e.val E.val := by
  intro es Es hf h
  induction h with
  | nil => cases hf
  | @cons e E l L hk hv hb tl ih =>
    have hf' : ifB (Nat.beq e.born b) (k e) (bornK b l k) = some x := hf
    cases hc : Nat.beq e.born b with
    | true =>
      rw [hc, ifB_t] at hf'
      exact ⟨e, E, hf', by rw [List.find?_cons]; simp [hb, beq_of hc], hk, hv⟩
    | false =>
      rw [hc, ifB_f] at hf'
      obtain ⟨e', E', h1, h2, h3⟩ := ih hf'
      have hne : (e.born == b) = false := beq_eq_false_iff_ne.2 (ne_of_beq hc)
      exact ⟨e', E', h1, by rw [List.find?_cons, hb, hne]; exact h2, h3⟩
theorem entry_ok {x : Operand} (ho : o.op = .entry x) : PlOk P o (entryC (evB x).f) := by
  intro t h k z r a w N hf hr he
  have hx := he x (by simp [ho, Op.operands])
  obtain ⟨h1, h2, h3, i, m, h4, h5, h6, h7, h8, hf⟩ := iterK_some hf
  obtain ⟨p, q1, q2, q3⟩ := hx.inv3 h1 h2
  obtain ⟨pm, c1, c2, c3, c4⟩ := iter_live hr h4 h5 q1
  obtain ⟨cur, d1, d2, d3⟩ := map_live hr h6 h7 c2
  rw [c3, h3] at q2
  rw [h8] at d1
  have hgi : (getObj p.blk).run P w = .ok (.mapIter (some pm.blk) i.m i.ns.reverse.toArray i.m) w := by simp [getObj, Sem.run, c1]
  cases hn : i.ns with
  | nil => rw [hn] at hf; cases hf
  | cons b l =>
    rw [hn] at hf hgi
    obtain ⟨e, E, g1, g2, g3, g4⟩ := born_ok hf d2
    have g2' : cur.find? (fun e => e.born == b) = some E := by rw [← Array.find?_toList]; exact g2
    refine ⟨_, _, g1, PDoes.pure hr (v' := .tuple #[E.key, E.val]) (.tup _ (.cons g3 (.cons g4 .nil))) ?_⟩
    simp [execOp, ho, q2, Instr.entry, hgi, run_getMap d1, g2']
end
end Go.Proofs.YtinpopjnnljkhaaGreatDoor
/- The machine for closed runs: every operation that calls nothing. -/
namespace Go.Proofs.YtinpopjnnljkhaaGreatDoor

/-- What is shown of an operation, by its class. -/
def ClsOk (P : Program) (o : Oper) (f : OpT) : Nat → Prop
  | 0 => PlOk P o f
  | 1 => LateOk P o f
  | _ => OpOk P o f
theorem ClsOk.op {P : Program} {o : Oper} {f : OpT} : ∀ {c : Nat}, ClsOk P o f c → OpOk P o f
  | 0, h => PlOk.op h
  | 1, h => LateOk.op h
  | _ + 2, h => h
theorem fail_cls {P : Program} {o : Oper} : ∀ c : Nat, ClsOk P o failB.f c
  | 0 => fail_pl
  | 1 => fail_late
  | _ + 2 => fail_ok

theorem intLt_ok (a b : Int) : intLt a b = decide (a < b) := intLt_eq a b
theorem notLt_ok (a b : Int) : ifB (intLt b a) false true = decide (a ≤ b) := by
  rw [intLt_eq]
  by_cases h : b < a
  · rw [decide_eq_true h, ifB_t, decide_eq_false (by omega)]
  · rw [decide_eq_false h, ifB_f, decide_eq_true (by omega)]

section
variable {P : Program} {o : Oper}
theorem binOp_pl {op : BinOp} {ty ty' : TypeId} {x y : Operand} (ho : o.op = .binOp op ty x y ty') : PlOk P o (opB P o).f := by
  have hp : PlOk P o (pureC P o) := pure_ok fun cs b e => by rw [ho] at e; cases e
  unfold opB
  rw [ho]
  simp only [oB5, undK_eq]
  split
  · exact arith_ok ho (.inl ⟨rfl, intAdd_eq⟩)
  · exact arith_ok ho (.inr ⟨rfl, intSub_eq⟩)
  · exact cmp_ok ho (.inl ⟨rfl, intLt_ok⟩)
  · exact cmp_ok ho (.inr (.inr (.inl ⟨rfl, fun a b => intLt_ok b a⟩)))
  · exact cmp_ok ho (.inr (.inl ⟨rfl, notLt_ok⟩))
  · exact cmp_ok ho (.inr (.inr (.inr ⟨rfl, fun a b => notLt_ok b a⟩)))
  · exact addStr_ok ho
  · rename_i hd
    split
    · rename_i hq
      exact eq_ok ho (eqOf_ok hd hq)
    · exact hp
  · rename_i hd
    split
    · rename_i hq
      exact ne_ok ho (eqOf_ok hd hq)
    · exact hp
  · exact hp

theorem call_op {c : Call} (ho : o.op = .call c) : ClsOk P o (opB P o).f (clsO (.call c)) := by
  obtain ⟨callee, args, argTypes⟩ := c
  cases callee with
  | value f => unfold opB; rw [ho]; exact fail_cls _
  | invoke r m => unfold opB; rw [ho]; exact fail_cls _
  | builtin b =>
    have hp : PlOk P o (pureC P o) := pure_ok fun cs b e => by rw [ho] at e; cases e
    cases b
    case len =>
      unfold opB
      rw [ho]
      simp only [oB17]
      split
      · rename_i x u h1 h2
        obtain ⟨ty, h3, h4⟩ := Option.bind_eq_some_iff.1 h2
        rw [undK_eq] at h4
        exact len_ok ho rfl (by simpa using congrArg List.toArray h1) h3 h4 (.inl ⟨u, rfl, rfl⟩)
      · rename_i x h1 h2
        obtain ⟨ty, h3, h4⟩ := Option.bind_eq_some_iff.1 h2
        rw [undK_eq] at h4
        exact len_ok ho rfl (by simpa using congrArg List.toArray h1) h3 h4 (.inr (.inl ⟨rfl, rfl⟩))
      · rename_i x u v h1 h2
        obtain ⟨ty, h3, h4⟩ := Option.bind_eq_some_iff.1 h2
        rw [undK_eq] at h4
        exact len_ok ho rfl (by simpa using congrArg List.toArray h1) h3 h4 (.inr (.inr ⟨u, v, rfl, rfl⟩))
      · exact fail_cls _
    case append =>
      unfold opB
      rw [ho]
      simp only [oB18, undK_eq]
      split
      · rename_i x y tx ty h1 h2
        split
        · rename_i e e' h3 h4
          split
          · rename_i s h5 h6
            split
            · rename_i h7
              exact append_ok ho rfl (by simpa using congrArg List.toArray h1) (by simpa using congrArg List.toArray h2) h3 h4 h6 h7
            · exact fail_cls _
          · exact fail_cls _
        · exact fail_cls _
      · exact fail_cls _
    all_goals (unfold opB; rw [ho]; exact hp)

theorem opB_cls (P : Program) (o : Oper) : ClsOk P o (opB P o).f (clsO o.op) := by
  cases ho : o.op
  case binOp => exact binOp_pl ho
  case call => exact call_op ho
  all_goals (unfold opB; rw [ho])
  all_goals try exact fail_cls _
  case move => exact move_ok (.inl ho)
  case assign => exact PlOk.op (move_ok (.inr ho))
  case pick => exact pick_ok ho
  case alloc =>
    simp only [oB0]
    split
    · rename_i h1 h2; exact alloc_ok ho h1 h2
    · exact fail_cls _
  case box =>
    simp only [oB1]
    split
    · rename_i h1; exact box_ok ho h1
    · exact fail_cls _
  case build =>
    simp only [oB2, undK_eq]
    split
    · rename_i h1 h2
      split
      · exact fail_cls _
      · rename_i h3; exact build_ok ho h1 h2 h3
    · rename_i h1 h2
      split
      · rename_i h3; exact buildA_ok ho h1 h2 h3
      · exact fail_cls _
    · exact fail_cls _
  case buildSlice =>
    simp only [oB3, undK_eq]
    split
    · rename_i h1
      split
      · rename_i h2 h3 h4
        rw [Bool.and_eq_true] at h4
        exact buildSlice_ok ho h1 h2 h3 h4.1 (Nat.le_of_ble_eq_true h4.2)
      · exact fail_cls _
    · exact fail_cls _
  case load => exact load_ok ho
  case store =>
    simp only [oB4]
    split
    · rename_i h1 h2; exact store1_ok ho h2
    · rename_i h3 _; exact store_ok ho h3
    · exact fail_cls _
  case nilCheck => exact nil_ok ho
  case unOp op ty x =>
    cases op
    case not => exact not_ok ho
    all_goals exact pure_ok fun cs b e => by rw [ho] at e; cases e
  case convert =>
    simp only [oB6, undK_eq]
    split
    · rename_i h1 h2
      split
      · rename_i h3
        split
        · rename_i h4; exact strBytes_ok ho h1 h2 h3 h4
        · exact fail_cls _
      · exact fail_cls _
    · rename_i h1 h2
      split
      · rename_i h3
        split
        · rename_i h4
          have h4 := beq_of h4
          subst h4
          rw [h1] at h2
          cases h2
          exact sameBytes_ok (e' := 0) ho h1 h3
        · exact fail_cls _
      · exact fail_cls _
    · exact PlOk.op (pure_ok fun cs b e => by rw [ho] at e; cases e)
  case makeFunc fn first cap =>
    cases fn
    case func => exact makeFunc_ok ho
    all_goals exact fail_cls _
  case makeMap ty x =>
    cases x with
    | none => exact makeMap_ok ho
    | some x =>
      simp only [oB7, undK_eq]
      split
      · rename_i h1; exact makeMap2_ok ho h1
      · exact fail_cls _
  case makeSlice =>
    simp only [oB8, undK_eq]
    split
    · rename_i h1
      split
      · rename_i h2 h3
        cases hs : szA P ‹_› with
        | none => simp [okRow, szA, infK_eq] at h3 hs; simp [hs] at h3
        | some s => exact makeSlice_ok ho h1 h2 hs h3
      · exact fail_cls _
    · exact fail_cls _
  case slice ty x lo hi mx =>
    simp only [oB9, undK_eq]
    split
    · rename_i h1
      split
      · rename_i h2
        split
        · rename_i h3
          refine slice_ok ho h1 h2 fun e => ?_
          cases mx with
          | none => cases e
          | some m => simpa using h3
        · exact fail_cls _
      · exact fail_cls _
    · rename_i h1
      cases mx with
      | none => exact sstr_ok ho h1
      | some m => exact fail_cls _
    · exact fail_cls _
  case fieldAddr =>
    simp only [oB10, undK_eq]
    split
    · rename_i h1
      split
      · rename_i h2
        split
        · rename_i h3; exact fieldAddr_ok ho h1 h2 h3
        · exact fail_cls _
      · exact fail_cls _
    · exact fail_cls _
  case field =>
    simp only [oB11, undK_eq]
    split
    · rename_i h1
      split
      · rename_i h2; exact field_ok ho h1 h2
      · exact fail_cls _
    · exact fail_cls _
  case indexAddr =>
    simp only [oB12, undK_eq]
    split
    · rename_i h1
      split
      · rename_i h2; exact indexPtr_ok ho h1 h2
      · exact fail_cls _
    · rename_i h1
      split
      · rename_i h2; exact indexAddr_ok ho h1 h2
      · exact fail_cls _
    · exact fail_cls _
  case index =>
    simp only [oB13, undK_eq]
    split
    · rename_i h1; exact sindex_ok ho h1
    · exact pure_ok fun cs b e => by rw [ho] at e; cases e
  case lookup =>
    simp only [oB14, undK_eq]
    split
    · rename_i kt e h1
      split
      · rename_i z T h2 h3
        cases hk : P.underlying kt with
        | none => rw [hk] at h3; cases h3
        | some kd =>
          rw [hk] at h3
          exact lookup_ok ho h1 hk h3 h2
      · exact fail_cls _
    · exact fail_cls _
  case mapUpdate =>
    simp only [oB15, undK_eq]
    split
    · rename_i kt e h1
      split
      · rename_i T h3
        cases hk : P.underlying kt with
        | none => rw [hk] at h3; cases h3
        | some kd =>
          rw [hk] at h3
          exact update_ok (.inl ho) h1 hk h3
      · exact fail_cls _
    · exact fail_cls _
  case insert =>
    simp only [oB15, undK_eq]
    split
    · rename_i kt e h1
      split
      · rename_i T h3
        cases hk : P.underlying kt with
        | none => rw [hk] at h3; cases h3
        | some kd =>
          rw [hk] at h3
          exact update_ok (.inr ho) h1 hk h3
      · exact fail_cls _
    · exact fail_cls _
  case range =>
    simp only [oB16, undK_eq]
    split
    · rename_i h1; exact range_ok ho h1
    · exact fail_cls _
  case next it b =>
    cases b with
    | false => exact next_ok ho
    | true => exact fail_cls _
  case entry => exact entry_ok ho
  case extract => exact extract_ok ho
end
end Go.Proofs.YtinpopjnnljkhaaGreatDoor
/- The machine for closed runs: calls; one operation of a region; regions in their order. -/
namespace Go.Proofs.YtinpopjnnljkhaaGreatDoor

def fw (ro : Option Nat) : Fence := { Fence.wide with round := ro }

/-- A function that is there and has code. -/
def Coded (P : Program) (f : FuncId) : Prop := ∃ fn, P.funcs[f]? = some fn ∧ (fn.name == "runtime.NumGoroutine") = false ∧ fn.body.isSome = true
/-- How calls are served. -/
structure CallOk (P : Program) (call : CallT) : Prop where
  st : ∀ f xs h k x r (args : Array Value) w, call.st f xs h k = some x → Rel P r h w → VRs r xs args.toList → Coded P f ∧
    CallsIn Fence.wide 0 P f args w (fun e w' => ∃ v v' h' s, e = .returned v' ∧ k v h' = some x ∧ VR s v v' ∧ Post P r h w s h' w')
  yd : ∀ l xs h k x r p (args : Array Value) w, call.yd l xs h k = some x → Rel P r h w → r l = some p → VRs r xs args.toList → ∃ fn tmps asg body, (Instr.yield p.blk args).run P w = .ok (.round p.blk fn tmps asg body) w ∧
    RoundIn Fence.wide 0 P p.blk fn tmps asg body w (fun e w' => ∃ v v' h' s, e = .returned v' ∧ k v h' = some x ∧ VR s v v' ∧ Post P r h w s h' w')

theorem litK_eq (k : Nat → R) : ∀ (d a s n : Nat), n < 2 ^ d → litK (litT d a s) n k = k (a + s * n)
  | 0, a, s, n, h => by
    have : n = 0 := by simpa using h
    subst this
    rfl
  | d + 1, a, s, n, h => by
    have h2 : n / 2 < 2 ^ d := by rw [Nat.pow_succ] at h; omega
    have e : litK (litT (d + 1) a s) n k = ifB (Nat.beq (n % 2) 0) (litK (litT d a (2 * s)) (n / 2) k) (litK (litT d (a + s) (2 * s)) (n / 2) k) := rfl
    rw [e, litK_eq k d _ _ _ h2, litK_eq k d _ _ _ h2]
    rcases Nat.mod_two_eq_zero_or_one n with h0 | h0
    · rw [h0]
      show k _ = k _
      congr 2
      have : n = 2 * (n / 2) := by omega
      rw [this]
      simp only [Nat.mul_div_cancel_left _ (by omega : 0 < 2)]
      rw [← Nat.mul_assoc, Nat.mul_comm s 2]
    · rw [h0]
      show k _ = k _
      congr 1
      have : n = 2 * (n / 2) + 1 := by omega
      generalize n / 2 = m at *
      subst this
      rw [Nat.mul_add, Nat.mul_one, ← Nat.mul_assoc, Nat.mul_comm s 2]
      omega

section
variable {P : Program}
theorem run_callFunc {f : FuncId} (hc : Coded P f) (args : Array Value) (w : World) : (callFunc f args).run P w = .ok (.enter f args) w := by
  obtain ⟨fn, h1, h2, h3⟩ := hc
  have h4 : fn.body.isNone = false := by
    cases hb : fn.body with
    | none => rw [hb] at h3; cases h3
    | some c => rfl
  have h2' : ¬ fn.name = "runtime.NumGoroutine" := by simpa using h2
  have h5 : ¬ fn.body = none := fun e => by rw [e] at h4; cases h4
  simp [callFunc, h1, h2', h5]

/-- What a call comes to. -/
def CallRes (P : Program) (w : World) (R : Ending → World → Prop) : Next → Prop
  | .enter f args => CallsIn Fence.wide 0 P f args w R
  | .round l f tmps asg body => RoundIn Fence.wide 0 P l f tmps asg body w R
  | _ => False
/-- A call of a value. -/
theorem valK_ok {call : CallT} (hc : CallOk P call) {f : AV} {fv : Value} {xs : List AV} {args : Array Value} {h : AH} {k : KV} {x : AV × AH} {r : Ren} {w : World} (hf : valK call f xs h k = some x) (hr : Rel P r h w) (hv : VR r f fv) (hx : VRs r xs args.toList) :
    ∃ d nx, (Deferred.ofValue fv args).run P w = .ok d w ∧ (invoke d.target d.args).run P w = .ok nx w ∧
      CallRes P w (fun e w' => ∃ v v' h' s, e = .returned v' ∧ k v h' = some x ∧ VR s v v' ∧ Post P r h w s h' w') nx ∧ (Nat.beq f.a 1 = true → ∃ g as', nx = .enter g as') := by
  unfold valK at hf
  obtain ⟨h1, hf⟩ := ifB_some hf
  have h1 := beq_of h1
  cases h2 : Nat.beq f.a 1 with
  | true =>
    rw [h2, ifB_t] at hf
    obtain ⟨h3, hf⟩ := ifB_some hf
    have h3 := Nat.le_of_ble_eq_true h3
    rw [litK_eq _ 10 0 1 f.b (by omega), Nat.zero_add, Nat.one_mul] at hf
    obtain ⟨a, b, rfl, h5, h6⟩ := hv.inv6 h1 (beq_of h2)
    have ha : VRs r (f.l.take f.c ++ xs ++ f.l.drop f.c) ((a ++ args ++ b).toList) := by
      have e1 := h6.take f.c
      have e2 := h6.drop f.c
      rw [h5] at e1 e2
      have e3 : (a.toList ++ b.toList).take a.size = a.toList := by simp
      have e4 : (a.toList ++ b.toList).drop a.size = b.toList := by simp
      rw [e3] at e1
      rw [e4] at e2
      rw [h5]
      simpa using (e1.append hx).append e2
    have hcall : call.st f.b (f.l.take f.c ++ xs ++ f.l.drop f.c) h k = some x := by
      cases h7 : Nat.beq f.c 0 with
      | true =>
        rw [h7, ifB_t] at hf
        rw [beq_of h7]
        simpa using hf
      | false => rw [h7, ifB_f] at hf; exact hf
    obtain ⟨h8, h9⟩ := hc.st _ _ _ _ _ _ _ _ hcall hr ha
    refine ⟨{ target := .fn (.func f.b) b, args := a ++ args }, .enter f.b (a ++ args ++ b), by simp [Deferred.ofValue], ?_, h9, fun _ => ⟨_, _, rfl⟩⟩
    simp [invoke, run_callFunc h8]
  | false =>
    rw [h2, ifB_f] at hf
    obtain ⟨h3, hf⟩ := ifB_some hf
    obtain ⟨p, h4, rfl⟩ := hv.inv6y h1 (beq_of h3)
    obtain ⟨fn, tmps, asg, body, h5, h6⟩ := hc.yd _ _ _ _ _ _ _ _ _ hf hr h4 hx
    refine ⟨{ target := .fn (.yield p.blk) #[], args := #[] ++ args }, .round p.blk fn tmps asg body, by simp [Deferred.ofValue], ?_, h6, fun e => by cases e⟩
    simp only [invoke, Array.empty_append]
    exact h5

/-- The temporaries after a value is put. -/
theorem put_ok {r : Ren} {t : Fr} {a : Act} {n : Nat} {d : Option Tmp} {v : AV} {v' : Value} (hn : n ≤ 512) (hs : a.tmps.size = n) {i : Nat} (hi : i < 512) (hv : VR r v v') (h : d = some i ∨ VR r (t.get i) (a.tmps.getD i undef)) (h0 : d = some i → VR r (t.get i) (a.tmps.getD i undef) ∨ i < n) :
    VR r (((putF n d).f t v).get i) ((a.put d v').tmps.getD i undef) := by
  cases d with
  | none =>
    rcases h with h | h
    · cases h
    · exact h
  | some d =>
    unfold putF
    simp only [Act.put]
    cases hd : Nat.blt d n with
    | true =>
      have hd : @LT.lt Nat _ d n := Nat.le_of_ble_eq_true hd
      rw [setF_get hi (by omega)]
      by_cases e : i = d
      · subst e
        rw [if_pos rfl]
        simpa [hs, hd] using hv
      · rw [if_neg e]
        rcases h with h | h
        · cases h; exact absurd rfl e
        · simpa [Array.getD_eq_getD_getElem?, Array.getElem?_setIfInBounds_ne (Ne.symm e)] using h
    | false =>
      have hd : ¬ @LT.lt Nat _ d n := fun e => by rw [show Nat.blt d n = true from Nat.ble_eq_true_of_le e] at hd; cases hd
      have e : a.tmps.setIfInBounds d v' = a.tmps := Array.setIfInBounds_eq_of_size_le (by omega)
      rw [e]
      rcases h with h | h
      · rcases h0 h with h | h1
        · exact h
        · cases h; exact absurd h1 hd
      · exact h
theorem put_size {a : Act} {d : Option Tmp} {v : Value} : (a.put d v).tmps.size = a.tmps.size := by
  cases d <;> simp [Act.put]
theorem put_defers {a : Act} {d : Option Tmp} {v : Value} : (a.put d v).defers = a.defers := by
  cases d <;> rfl
theorem FrR.put {r s : Ren} {t : Fr} {a : Act} {n : Nat} {v : AV} {v' : Value} (h : FrR r t a.tmps) (hle : r.le s) (hn : n ≤ 512) (hs : a.tmps.size = n) (d : Option Tmp) (hv : VR s v v') : FrR s ((putF n d).f t v) (a.put d v').tmps :=
  fun i hi => put_ok hn hs hi hv (.inr ((h i hi).mono hle)) fun _ => .inl ((h i hi).mono hle)

variable {n : Nat} {call : CallT} {t : Fr} {h : AH} {k : KC} {x : AV × AH} {r : Ren} {a : Act} {w : World} {o : Oper} {rest : Bx CodeT} {ro : Option Nat} {Q : Exit → Act → World → Prop} {K : Act → World → Prop}

theorem evs_args {args : Array Operand} (he : ∀ y ∈ args.toList, VR r ((evB y).f t) (a.eval y)) : VRs r ((evsB args.toList).f t) (args.map a.eval).toList := by
  have := evs_ok (r := r) (t := t) (a := a) (xs := args.toList) he
  simpa using this

/-- A call's result is put, and on. -/
theorem call_res {nx : Next} {kv : KV}
    (hres : CallRes P w (fun e w' => ∃ v v' h' s, e = .returned v' ∧ kv v h' = some x ∧ VR s v v' ∧ Post P r h w s h' w') nx)
    (hK : ∀ v v' s h' w', kv v h' = some x → VR s v v' → Post P r h w s h' w' → K (a.put o.dst v') w') :
    o.uponIn (fw ro) 0 P a K Q (.ok nx w) := by
  cases nx with
  | enter f args =>
    refine ⟨(fun e => by cases e), CallsIn.mono (F := fw ro) (R := fun e w' => ∃ v v' h' s, e = .returned v' ∧ kv v h' = some x ∧ VR s v v' ∧ Post P r h w s h' w') hres fun e w' he => ?_⟩
    obtain ⟨v, v', h', s, rfl, h1, h2, h3⟩ := he
    exact hK _ _ _ _ _ h1 h2 h3
  | round l f tmps asg body =>
    refine ⟨(fun e => by cases e), RoundIn.mono (F := fw ro) (R := fun e w' => ∃ v v' h' s, e = .returned v' ∧ kv v h' = some x ∧ VR s v v' ∧ Post P r h w s h' w') hres fun e w' he => ?_⟩
    obtain ⟨v, v', h', s, rfl, h1, h2, h3⟩ := he
    exact hK _ _ _ _ _ h1 h2 h3
  | _ => exact hres.elim

/-- One operation. -/
theorem one_ok (hc : CallOk P call) (hf : (oneB P n o rest).f call t h k = some x) (hr : Rel P r h w) (he : EvOk r t a o.op.operands.toList)
    (hK : ∀ v v' s h' w', rest.f call ((putF n o.dst).f t v) h' k = some x → VR s v v' → Post P r h w s h' w' → K (a.put o.dst v') w') : o.wpIn (fw ro) 0 P a w K Q := by
  refine ⟨fun _ _ => trivial, ?_⟩
  unfold oneB at hf
  split at hf
  · rename_i f args ats ho
    rw [Oper.semAt_eq _ _ _ (fun c e => by rw [ho] at e; cases e)]
    have hx := evs_args (r := r) (t := t) (a := a) (args := args) fun y hy => he y (by simp [ho, Op.operands, Call.operands]; exact .inr (by simpa using hy))
    obtain ⟨h1, h2⟩ := hc.st _ _ _ _ _ _ _ _ hf hr hx
    have : (execOp a.eval o).run P w = .ok (.enter f (args.map a.eval)) w := by
      simp [execOp, ho, resolve, Act.eval, Deferred.ofValue, invoke, run_callFunc h1]
    rw [this]
    exact call_res (nx := .enter f (args.map a.eval)) h2 hK
  · rename_i f args ats hnf ho
    rw [Oper.semAt_eq _ _ _ (fun c e => by rw [ho] at e; cases e)]
    have hx := evs_args (r := r) (t := t) (a := a) (args := args) fun y hy => he y (by simp [ho, Op.operands, Call.operands]; exact .inr (by simpa using hy))
    obtain ⟨d, nx, h1, h2, h3, -⟩ := valK_ok hc hf hr (he f (by simp [ho, Op.operands, Call.operands])) hx
    have : (execOp a.eval o).run P w = .ok nx w := by
      simp [execOp, ho, resolve, h1, h2]
    rw [this]
    exact call_res h3 hK
  · have hnd : ∀ c, o.op ≠ .defer c := fun c e => by
      have : (opB P o).f t h (fun v h => rest.f call ((putF n o.dst).f t v) h k) = some x := hf
      unfold opB at this
      rw [e] at this
      cases this
    rw [Oper.semAt_eq _ _ _ hnd]
    obtain ⟨v, h', h1, s, w', v', h2, h3, h4⟩ := (opB_cls P o).op t h _ x r a w hf hr he
    rcases h2 with h2 | ⟨h2, rfl⟩
    · rw [h2]; exact hK _ _ _ _ _ h1 h3 h4
    · rw [h2]; exact hK _ _ _ _ _ h1 h3 h4

/-- One operation of a region, with its guard. -/
theorem step_ok {ops : Array Oper} {i : Nat} (hc : CallOk P call) (ho : ops[i]? = some o) (hf : (stepB P n ops o rest).f call t h k = some x) (hr : Rel P r h w) (he : EvOk r t a o.op.operands.toList)
    (hg : ∀ j want d, o.guard = some (j, want) → (ops[j]?).bind (·.dst) = some d → VR r ((evB (.tmp d)).f t) (a.eval (.tmp d)))
    (hK : ∀ v v' s h' w', rest.f call ((putF n o.dst).f t v) h' k = some x → VR s v v' → Post P r h w s h' w' → K (a.put o.dst v') w') : wpOpIn (fw ro) 0 P ops Q i K a w := by
  unfold wpOpIn
  simp only [ho]
  have hskip : rest.f call ((putF n o.dst).f t .undef) h k = some x → (∀ f, o.about P w a.eval = some f → (fw ro).fn f) ∧ K (a.put o.dst undef) w := fun hs => ⟨fun _ _ => trivial, hK _ _ _ _ _ hs VR.undef (Post.refl hr)⟩
  unfold stepB at hf
  split at hf
  · rename_i hgd
    have : Region.wanted o (yielded ops a.tmps) = true := by simp [Region.wanted, hgd]
    rw [if_pos this]
    exact one_ok hc hf hr he hK
  · rename_i j want hgd
    have hwt : Region.wanted o (yielded ops a.tmps) = (yielded ops a.tmps j == some want) := by simp [Region.wanted, hgd]
    rw [hwt]
    split at hf
    · rename_i d hd
      have hv := hg j want d hgd hd
      have hy : yielded ops a.tmps j = match a.eval (.tmp d) with | .bool b => some b | _ => none := by
        simp [yielded, hd, Act.eval]
        cases a.tmps[d]? with
        | none => rfl
        | some u => cases u <;> rfl
      have hf' : ifB (Nat.beq ((evB (.tmp d)).f t).tag 1) (ifB (Nat.beq ((evB (.tmp d)).f t).a want.toNat) ((oneB P n o rest).f call t h k) ((skipC (putF n o.dst).f rest.f) call t h k)) (ifB (Nat.beq ((evB (.tmp d)).f t).tag 8) ((skipC (putF n o.dst).f rest.f) call t h k) none) = some x := hf
      cases h1 : Nat.beq ((evB (.tmp d)).f t).tag 1 with
      | true =>
        rw [h1, ifB_t] at hf'
        obtain ⟨b, h2, h3⟩ := hv.inv1 (beq_of h1)
        rw [hy, h2]
        cases h4 : Nat.beq ((evB (.tmp d)).f t).a want.toNat with
        | true =>
          rw [h4, ifB_t] at hf'
          have : b = want := by
            have := h3.symm.trans (beq_of h4)
            cases b <;> cases want <;> first | rfl | cases this
          subst this
          simp only [beq_self_eq_true, if_true]
          exact one_ok hc hf' hr he hK
        | false =>
          rw [h4, ifB_f] at hf'
          have : b ≠ want := by
            rintro rfl
            rw [h3] at h4
            rw [Nat.beq_refl] at h4
            cases h4
          have : (some b == some want) = false := by cases b <;> cases want <;> first | rfl | exact absurd rfl this
          simp only [this]
          exact hskip hf'
      | false =>
        rw [h1, ifB_f] at hf'
        obtain ⟨h5, hf'⟩ := ifB_some hf'
        obtain ⟨cs, h6, -⟩ := hv.inv8 (beq_of h5)
        have : (yielded ops a.tmps j == some want) = false := by rw [hy, h6]; rfl
        simp only [this]
        exact hskip hf'
    · rename_i hd
      have : (yielded ops a.tmps j == some want) = false := by
        have : yielded ops a.tmps j = none := by simp [yielded, hd]
        rw [this]
        rfl
      simp only [this]
      exact hskip hf
end
end Go.Proofs.YtinpopjnnljkhaaGreatDoor
/- The machine for closed runs: code. -/
namespace Go.Proofs.YtinpopjnnljkhaaGreatDoor

/-- The marks of the loops over functions that an activation has entered. -/
inductive Marks (m : Nat) (w : World) : List Deferred → Prop
  | nil : Marks m w []
  | cons {b : Nat} {ds : List Deferred} (hb : m ≤ b) (h : w.heap[b]? = some (.deferred (some []))) (hn : ∀ d ∈ ds, d.target ≠ .collected b) (t : Marks m w ds) : Marks m w ({ target := .collected b, args := #[] } :: ds)

theorem ObR.no_mark {P : Program} {r : Ren} {p : Pl} {w : World} {o : OB} (h : ObR P r p w o) {d : Option (List Deferred)} (hd : w.heap[p.blk]? = some (.deferred d)) : False := by
  cases h with
  | arr h1 _ _ _ _ _ => rw [h1] at hd; cases hd
  | map h1 _ _ => rw [h1] at hd; cases hd
  | lit h1 _ _ _ _ => rw [h1] at hd; cases hd
  | iter h1 _ _ => rw [h1] at hd; cases hd
  | loop h1 _ _ _ _ _ _ _ => rw [h1] at hd; cases hd
theorem Post.marked {P : Program} {r s : Ren} {h h' : AH} {w w' : World} (hp : Post P r h w s h' w') (hr : Rel P r h w) {b : Nat} {d : Option (List Deferred)} (hb : w.heap[b]? = some (.deferred d)) : w'.heap[b]? = some (.deferred d) := by
  rw [hp.frame b (Array.getElem?_eq_some_iff.1 hb).1 fun i o p h1 h2 e => (hr.live i o p h1 h2).no_mark (e ▸ hb)]
  exact hb
theorem Marks.step {P : Program} {m : Nat} {r s : Ren} {h h' : AH} {w w' : World} (hp : Post P r h w s h' w') (hr : Rel P r h w) : ∀ {ds : List Deferred}, Marks m w ds → Marks m w' ds
  | _, .nil => .nil
  | _, .cons h0 h1 h2 t => .cons h0 (hp.marked hr h1) h2 (Marks.step hp hr t)

/-- An activation as the machine has it. -/
structure St (P : Program) (n m : Nat) (r : Ren) (t : Fr) (h : AH) (a : Act) (w : World) : Prop where
  fr : FrR r t a.tmps
  sz : a.tmps.size = n
  le : n ≤ 512
  rel : Rel P r h w
  marks : Marks m w a.defers
  low : m ≤ w.heap.size

def exitOf : Nat → Nat → Exit
  | 0, _ => .normal
  | 1, o => .exit o
  | _, _ => .ret
/-- How code ends. -/
def After (P : Program) (n m : Nat) (k : KC) (x : AV × AH) (r : Ren) (h : AH) (w : World) (e : Exit) (a : Act) (w' : World) : Prop :=
  ∃ y o t' h' s, k y o t' h' = some x ∧ e = exitOf y o ∧ St P n m s t' h' a w' ∧ Post P r h w s h' w'

section
variable {P : Program} {n m : Nat} {call : CallT} {x : AV × AH} {ro : Option Nat}
theorem After.trans {k : KC} {r s : Ren} {h h' : AH} {w w' w'' : World} {e : Exit} {a : Act} (hp : Post P r h w s h' w') : After P n m k x s h' w' e a w'' → After P n m k x r h w e a w''
  | ⟨y, o, t', h2, s2, h3, h4, h5, h6⟩ => ⟨y, o, t', h2, s2, h3, h4, h5, hp.trans h6⟩
theorem St.step {r s : Ren} {t : Fr} {h h' : AH} {a : Act} {w w' : World} (hs : St P n m r t h a w) (hp : Post P r h w s h' w') (d : Option Tmp) {v : AV} {v' : Value} (hv : VR s v v') : St P n m s ((putF n d).f t v) h' (a.put d v') w' :=
  ⟨hs.fr.put hp.ext hs.le hs.sz d hv, put_size.trans hs.sz, hs.le, hp.rel, by rw [put_defers]; exact hs.marks.step hp hs.rel, Nat.le_trans hs.low hp.size⟩

/-- A region in its order. -/
theorem ops_ok (hc : CallOk P call) {k : KC} {ops : Array Oper} {Q : Exit → Act → World → Prop} : ∀ (l : List Oper) (i0 : Nat), (∀ j, l[j]? = ops[i0 + j]?) → ∀ (t : Fr) (h : AH) (r : Ren) (a : Act) (w : World), (opsB P n ops l).f call t h k = some x → St P n m r t h a w →
    (∀ e a' w', After P n m k x r h w e a' w' → Q e a' w') → wpOpsIn (fw ro) 0 P ops Q (List.range' i0 l.length) a w
  | [], i0, hl, t, h, r, a, w, hf, hs, hQ => hQ _ _ _ ⟨0, 0, t, h, r, hf, rfl, hs, Post.refl hs.rel⟩
  | o :: l, i0, hl, t, h, r, a, w, hf, hs, hQ => by
    rw [List.length_cons, List.range'_succ, wpOpsIn_cons]
    refine step_ok hc (by have := hl 0; simpa using this.symm) hf hs.rel (EvOk.of hs.fr _) (fun j want d _ _ => evB_ok hs.fr _) fun v v' s h' w' h1 h2 h3 => ?_
    exact ops_ok hc l (i0 + 1) (fun j => by have := hl (j + 1); simpa [Nat.add_assoc, Nat.add_comm 1 j] using this) _ _ _ _ _ h1 (hs.step h3 _ h2) fun e a' w'' ha => hQ e a' w'' (ha.trans h3)

theorem region_ok (hc : CallOk P call) {k : KC} {ops : Array Oper} {id : Nat} {t : Fr} {h : AH} {r : Ren} {a : Act} {w : World} (hf : (opsB P n ops ops.toList).f call t h k = some x) (hs : St P n m r t h a w) :
    (Code.region id ops false).wpIn (fw ro) 0 P (After P n m k x r h w) a w := by
  refine wpIn_region ?_
  have := ops_ok (ro := ro) (Q := After P n m k x r h w) hc ops.toList 0 (fun j => by simp) t h r a w hf hs fun _ _ _ h => h
  rw [List.range_eq_range']
  simpa using this

/-- The least of numbers. -/
theorem least {p : Nat → Prop} (h : ∃ m, p m) : ∃ m, p m ∧ ∀ j, p j → m ≤ j := by
  obtain ⟨m, hm⟩ := h
  induction m using Nat.strongRecOn with
  | _ m ih =>
    by_cases hj : ∃ j, j < m ∧ p j
    · obtain ⟨j, h1, h2⟩ := hj
      exact ih j h1 h2
    · exact ⟨m, hm, fun j hp => Nat.le_of_not_lt fun hlt => hj ⟨j, hlt, hp⟩⟩
open Classical in
noncomputable def leastOf (p : Nat → Prop) : Nat := if h : ∃ m, p m then Classical.choose (least h) else 0
theorem leastOf_spec {p : Nat → Prop} (h : ∃ m, p m) : p (leastOf p) ∧ ∀ j, p j → leastOf p ≤ j := by
  unfold leastOf
  rw [dif_pos h]
  exact Classical.choose_spec (least h)

theorem loop_ok {c : Code} {f : CodeT} {k : KC} {t : Fr} {h : AH} {r : Ren} {a : Act} {w : World}
    (ih : ∀ (t : Fr) (h : AH) (k : KC) (r : Ren) (a : Act) (w : World), f call t h k = some x → St P n m r t h a w → c.wpIn (fw ro) 0 P (After P n m k x r h w) a w)
    (hf : loopC f call t h k = some x) (hs : St P n m r t h a w) : (Code.loop c).wpIn (fw ro) 0 P (After P n m k x r h w) a w := by
  let p : Act → World → Nat → Prop := fun a' w' j => ∃ t' h' s, loopK none (fun t h k => f call t h k) j t' h' k = some x ∧ St P n m s t' h' a' w' ∧ Post P r h w s h' w'
  refine wpIn_loop (fun a' w' => ∃ j, p a' w' j) (fun a' w' => leastOf (p a' w')) ⟨100000, t, h, r, hf, hs, Post.refl hs.rel⟩ fun a' w' hI => ?_
  obtain ⟨⟨t', h', s, h1, h2, h3⟩, -⟩ := leastOf_spec hI
  cases hm : leastOf (p a' w') with
  | zero => rw [hm] at h1; cases h1
  | succ j =>
    rw [hm] at h1
    refine wpIn_mono (ih t' h' _ s a' w' h1 h2) fun e a2 w2 he => ?_
    obtain ⟨y, o, t2, h4, s2, h5, rfl, h6, h7⟩ := he
    have h5 : ifB (Nat.beq y 0) (loopK none (fun t h k => f call t h k) j t2 h4 k) (k y o t2 h4) = some x := h5
    cases hy : Nat.beq y 0 with
    | true =>
      rw [hy, ifB_t] at h5
      have := beq_of hy
      subst this
      have hp : p a2 w2 j := ⟨t2, h4, s2, h5, h6, h3.trans h7⟩
      exact ⟨⟨j, hp⟩, Nat.lt_succ_of_le ((leastOf_spec ⟨j, hp⟩).2 j hp)⟩
    | false =>
      rw [hy, ifB_f] at h5
      have hq : After P n m k x r h w (exitOf y o) a2 w2 := ⟨y, o, t2, h4, s2, h5, rfl, h6, h3.trans h7⟩
      match y, hy, hq with
      | 0, hy, _ => cases hy
      | 1, _, hq => exact hq
      | _ + 2, _, hq => exact hq

/-- How code is shown to be done: for a fence of rounds too. -/
def CodeOk (P : Program) (n : Nat) (call : CallT) (c : Code) (f : CodeT) (rd : Bool) : Prop :=
  ∀ (ro : Option Nat) (m : Nat) (t : Fr) (h : AH) (k : KC) (x : AV × AH) (r : Ren) (a : Act) (w : World), (rd = false → ro = none) → f call t h k = some x → St P n m r t h a w → c.wpIn (fw ro) 0 P (After P n m k x r h w) a w

theorem block_ok {rd : Bool} {id : Nat} {b : Code} {bb : Bx CodeT} (ih : CodeOk P n call b bb.f rd) : CodeOk P n call (.block id b) (blockC id bb.f) rd := by
    intro ro m t h k x r a w hro hf hs
    refine wpIn_block (wpIn_mono (ih ro m t h _ x r a w hro hf hs) fun e a' w' he => ?_)
    obtain ⟨y, o, t', h', s, h1, rfl, h2, h3⟩ := he
    have h1 : ifB (Nat.beq y 1) (ifB (Nat.beq o id) (k 0 0 t' h') (k y o t' h')) (k y o t' h') = some x := h1
    cases hy : Nat.beq y 1 with
    | true =>
      rw [hy, ifB_t] at h1
      have := beq_of hy
      subst this
      show Exit.inBlock id _ (.exit o) a' w'
      cases ho : Nat.beq o id with
      | true =>
        rw [ho, ifB_t] at h1
        simp only [Exit.inBlock, beq_of ho, if_true]
        exact ⟨0, 0, t', h', s, h1, rfl, h2, h3⟩
      | false =>
        rw [ho, ifB_f] at h1
        have : o ≠ id := fun e => by rw [e, Nat.beq_refl] at ho; cases ho
        simp only [Exit.inBlock, this, if_false]
        exact ⟨1, o, t', h', s, h1, rfl, h2, h3⟩
    | false =>
      rw [hy, ifB_f] at h1
      have hq : After P n m k x r h w (exitOf y o) a' w' := ⟨y, o, t', h', s, h1, rfl, h2, h3⟩
      match y, hy, hq with
      | 0, _, hq => exact hq
      | 1, hy, _ => cases hy
      | _ + 2, _, hq => exact hq
theorem code_ok {rd : Bool} {blk : Nat → Code → Bx CodeT → Bx CodeT} (hc : CallOk P call) (hb : ∀ id b bb, CodeOk P n call b bb.f rd → CodeOk P n call (.block id b) (blk id b bb).f rd) (hd : ∀ (id : Nat) (ops : Array Oper), CodeOk P n call (.region id ops true) (drawB P n ops).f rd)
    (hrf : ∀ (g : Operand) (ps : Array Tmp) (asg body : Code), CodeOk P n call (.rangeFunc g ps asg body) (rangeFC n (evB g).f ps.toList asg body) false) : ∀ c : Code, CodeOk P n call c (codeG P n rd blk c).f rd := by
  intro c
  induction c with
  | skip => exact fun ro m t h k x r a w hro hf hs => wpIn_skip ⟨0, 0, t, h, r, hf, rfl, hs, Post.refl hs.rel⟩
  | exit id => exact fun ro m t h k x r a w hro hf hs => wpIn_exit ⟨1, id, t, h, r, hf, rfl, hs, Post.refl hs.rel⟩
  | ret => exact fun ro m t h k x r a w hro hf hs => wpIn_ret ⟨2, 0, t, h, r, hf, rfl, hs, Post.refl hs.rel⟩
  | region id ops d =>
    cases d with
    | false => exact fun ro m t h k x r a w hro hf hs => region_ok hc hf hs
    | true => exact hd id ops
  | seq b c ihb ihc =>
    intro ro m t h k x r a w hro hf hs
    refine wpIn_seq (wpIn_mono (ihb ro m t h _ x r a w hro hf hs) fun e a' w' he => ?_)
    obtain ⟨y, o, t', h', s, h1, rfl, h2, h3⟩ := he
    have h1 : ifB (Nat.beq y 0) ((codeG P n rd blk c).f call t' h' k) (k y o t' h') = some x := h1
    cases hy : Nat.beq y 0 with
    | true =>
      rw [hy, ifB_t] at h1
      have := beq_of hy
      subst this
      exact wpIn_mono (ihc ro m t' h' k x s a' w' hro h1 h2) fun e a2 w2 he => he.trans h3
    | false =>
      rw [hy, ifB_f] at h1
      have hq : After P n m k x r h w (exitOf y o) a' w' := ⟨y, o, t', h', s, h1, rfl, h2, h3⟩
      match y, hy, hq with
      | 0, hy, _ => cases hy
      | 1, _, hq => exact hq
      | _ + 2, _, hq => exact hq
  | cond c b1 b2 ih1 ih2 =>
    intro ro m t h k x r a w hro hf hs
    have hf : ifB (Nat.beq ((evB c).f t).tag 1) (ifB (Nat.beq ((evB c).f t).a 1) ((codeG P n rd blk b1).f call t h k) ((codeG P n rd blk b2).f call t h k)) none = some x := hf
    obtain ⟨h1, hf⟩ := ifB_some hf
    obtain ⟨b, h2, h3⟩ := (evB_ok hs.fr c).inv1 (beq_of h1)
    rw [h3] at hf
    cases b with
    | true => exact wpIn_cond_true h2 (ih1 ro m t h k x r a w hro hf hs)
    | false => exact wpIn_cond_false h2 (ih2 ro m t h k x r a w hro hf hs)
  | block id b ih => exact hb id b _ ih
  | loop b ih => exact fun ro m t h k x r a w hro hf hs => loop_ok (fun t h k r a w => ih ro m t h k x r a w hro) hf hs
  | rangeFunc g ps asg body _ _ =>
    cases rd with
    | false => exact hrf g ps asg body
    | true => exact fun ro m t h k x r a w hro hf hs => by cases hf
  | _ => exact fun ro m t h k x r a w hro hf hs => by cases hf
end
end Go.Proofs.YtinpopjnnljkhaaGreatDoor
/- The machine for closed runs: the plan of a region that draws its order. -/
namespace Go.Proofs.YtinpopjnnljkhaaGreatDoor

theorem avEqB_ok {x y : AV} {l : Bool} (h : avEqB x y l = true) : x.tag = y.tag ∧ x.a = y.a ∧ x.b = y.b ∧ x.c = y.c ∧ x.d = y.d ∧ x.e = y.e ∧ x.i = y.i ∧ x.s = y.s ∧ l = true := by
  have ib : ∀ {b c : Bool}, ifB b c false = true → b = true ∧ c = true := fun {b c} h => by cases b <;> cases c <;> first | exact ⟨rfl, rfl⟩ | cases h
  obtain ⟨h1, h⟩ := ib h
  obtain ⟨h2, h⟩ := ib h
  obtain ⟨h3, h⟩ := ib h
  obtain ⟨h4, h⟩ := ib h
  obtain ⟨h5, h⟩ := ib h
  obtain ⟨h6, h⟩ := ib h
  obtain ⟨h7, h⟩ := ib h
  obtain ⟨h8, h⟩ := ib h
  rw [intEq_eq] at h7
  exact ⟨beq_of h1, beq_of h2, beq_of h3, beq_of h4, beq_of h5, beq_of h6, eq_of_beq h7, strEq_iff.1 h8, h⟩
theorem AV.ext' {x y : AV} (h1 : x.tag = y.tag ∧ x.a = y.a ∧ x.b = y.b ∧ x.c = y.c ∧ x.d = y.d ∧ x.e = y.e ∧ x.i = y.i ∧ x.s = y.s) (h2 : x.l = y.l) : x = y := by
  cases x; cases y; simp_all
theorem avEq1_ok {x y : AV} (h : avEq1 x y = true) : x = y := by
  obtain ⟨h1, h2, h3, h4, h5, h6, h7, h8, h9⟩ := avEqB_ok h
  refine AV.ext' ⟨h1, h2, h3, h4, h5, h6, h7, h8⟩ ?_
  cases hx : x.l <;> cases hy : y.l <;> rw [hx, hy] at h9 <;> first | rfl | cases h9
theorem avsEq_ok {eq : AV → AV → Bool} (he : ∀ {x y}, eq x y = true → x = y) : ∀ {l m : List AV}, avsEq eq l m = true → l = m
  | [], [], _ => rfl
  | [], _ :: _, h => by cases h
  | _ :: _, [], h => by cases h
  | a :: l, b :: m, h => by
    have h : ifB (eq a b) (avsEq eq l m) false = true := h
    cases h1 : eq a b with
    | true => rw [h1, ifB_t] at h; rw [he h1, avsEq_ok he h]
    | false => rw [h1] at h; cases h
theorem avEqN_ok {eq : AV → AV → Bool} (he : ∀ {x y}, eq x y = true → x = y) {x y : AV} (h : avEqB x y (avsEq eq x.l y.l) = true) : x = y := by
  obtain ⟨h1, h2, h3, h4, h5, h6, h7, h8, h9⟩ := avEqB_ok h
  exact AV.ext' ⟨h1, h2, h3, h4, h5, h6, h7, h8⟩ (avsEq_ok he h9)
theorem avEq_ok {x y : AV} (h : avEq x y = true) : x = y := avEqN_ok (avEqN_ok (avEqN_ok avEq1_ok)) h

/-! ### Masks -/
theorem subM_ok {m c : Nat} (h : subM m c = true) {j : Nat} (hj : Nat.testBit m j = true) : Nat.testBit c j = true := by
  have h1 : m &&& c = m := beq_of h
  rw [← h1, Nat.testBit_and, Bool.and_eq_true] at hj
  exact hj.2

/-- What is done is shut under what must lie ahead. -/
def Shut (D : Nat → Bool) (acc : List Nat) : Prop := ∀ i m, acc[i]? = some m → D i = true → ∀ j, Nat.testBit m j = true → D j = true
def Ahead (D : Nat → Bool) (o : Oper) : Prop := ∀ e ∈ o.after, Region.binds .any e = true → D e.on = true
theorem mask_ok {D : Nat → Bool} {acc : List Nat} (hs : Shut D acc) : ∀ (es : List Edge), (∀ e ∈ es, Region.binds .any e = true → D e.on = true) → ∀ j, Nat.testBit (maskE acc es) j = true → D j = true
  | [], _, j, hj => by simp [maskE] at hj
  | e :: es, h, j, hj => by
    unfold maskE at hj
    cases hb : Region.binds .any e with
    | false =>
      rw [hb] at hj
      exact mask_ok hs es (fun e' he' => h e' (by simp [he'])) j hj
    | true =>
      rw [hb] at hj
      simp only [Nat.testBit_or, Bool.or_eq_true] at hj
      have he := h e (by simp) hb
      rcases hj with hj | hj | hj
      · rw [Nat.testBit_two_pow] at hj
        have : e.on = j := by simpa using hj
        rw [← this]
        exact he
      · cases hg : acc[e.on]? with
        | none => simp [List.getD_eq_getElem?_getD, hg] at hj
        | some m =>
          have : acc.getD e.on 0 = m := by simp [List.getD_eq_getElem?_getD, hg]
          rw [this] at hj
          exact hs _ _ hg he j hj
      · exact mask_ok hs es (fun e' he' => h e' (by simp [he'])) j hj

/-- An item of the plan is an operation of the region; its mask holds what must lie ahead. -/
theorem items_ok {D : Nat → Bool} : ∀ (l : List Oper) (i : Nat) (acc : List Nat), acc.length = i → Shut D acc → (∀ j o, l[j]? = some o → D (i + j) = true → Ahead D o) → ∀ p ∈ itemsGo i acc l, (∃ j, p.i = i + j ∧ l[j]? = some p.o) ∧ (Ahead D p.o → ∀ j, Nat.testBit p.m j = true → D j = true)
  | [], _, _, _, _, _, p, hp => by cases hp
  | o :: l, i, acc, hl, hs, hD, p, hp => by
    rw [itemsGo] at hp
    rcases List.mem_cons.1 hp with rfl | hp
    · exact ⟨⟨0, rfl, rfl⟩, fun ha => mask_ok hs _ fun e he => ha e (by simpa using he)⟩
    · obtain ⟨⟨j, h1, h2⟩, h3⟩ := items_ok l (i + 1) (acc ++ [maskE acc o.after.toList]) (by simp [hl]) (fun k m hk hDk => by
        by_cases hlt : k < acc.length
        · rw [List.getElem?_append_left hlt] at hk
          exact hs k m hk hDk
        · rw [List.getElem?_append_right (by omega)] at hk
          have hk0 : k = i := by
            have := (List.getElem?_eq_some_iff.1 hk).1
            simp at this
            omega
          subst hk0
          have : m = maskE acc o.after.toList := by
            rw [hl] at hk
            simpa using hk.symm
          rw [this]
          exact mask_ok hs _ fun e he => hD 0 o rfl (by simpa using hDk) e (by simpa using he))
        (fun j o' h1 h2 => hD (j + 1) o' (by simpa using h1) (by rw [← h2]; congr 1; omega)) p hp
      exact ⟨⟨j + 1, by omega, by simpa using h2⟩, h3⟩
theorem items_all (l : List Oper) : ∀ (i : Nat) (acc : List Nat) (j : Nat) (o : Oper), l[j]? = some o → ∃ p, p ∈ itemsGo i acc l ∧ p.i = i + j ∧ p.o = o := by
  induction l with
  | nil => intro i acc j o h; simp at h
  | cons o' l ih =>
    intro i acc j o h
    cases j with
    | zero =>
      have h : o' = o := by simpa using h
      subst h
      exact ⟨_, List.mem_cons_self, rfl, rfl⟩
    | succ j =>
      obtain ⟨p, h1, h2, h3⟩ := ih (i + 1) (acc ++ [maskE acc o'.after.toList]) j o (by simpa using h)
      exact ⟨p, List.mem_cons_of_mem _ h1, by omega, h3⟩
theorem items_le : ∀ (l : List Oper) (i : Nat) (acc : List Nat) (p : PS), p ∈ itemsGo i acc l → i ≤ p.i
  | [], _, _, p, hp => by cases hp
  | o :: l, i, acc, p, hp => by
    rcases List.mem_cons.1 hp with rfl | hp
    · exact Nat.le_refl _
    · have := items_le l _ _ p hp
      omega
theorem items_inj : ∀ (l : List Oper) (i : Nat) (acc : List Nat) (p q : PS), p ∈ itemsGo i acc l → q ∈ itemsGo i acc l → p.i = q.i → p = q
  | [], _, _, p, q, hp, _, _ => by cases hp
  | o :: l, i, acc, p, q, hp, hq, he => by
    have lo : ∀ p' ∈ itemsGo (i + 1) (acc ++ [maskE acc o.after.toList]) l, i < p'.i := fun p' hp' => items_le l _ _ p' hp'
    rw [itemsGo] at hp hq
    rcases List.mem_cons.1 hp with rfl | hp <;> rcases List.mem_cons.1 hq with rfl | hq
    · rfl
    · have := lo q hq; simp at he; omega
    · have := lo p hp; simp at he; omega
    · exact items_inj l _ _ p q hp hq he

theorem pick_mem : ∀ {c : Nat} {l : List PS} {p : PS}, pickP c l = some p → p ∈ l
  | _, [], _, h => by cases h
  | c, q :: l, p, h => by
    unfold pickP at h
    split at h
    · cases h; simp
    · exact List.mem_cons_of_mem _ (pick_mem h)
theorem plan_mem : ∀ (n c : Nat) (l : List PS) (p : PS), p ∈ planGo n c l → p ∈ l
  | 0, _, _, _, h => by cases h
  | n + 1, c, l, p, h => by
    unfold planGo at h
    split at h
    · rename_i q hq
      rcases List.mem_cons.1 h with rfl | h
      · exact pick_mem hq
      · exact (List.mem_filter.1 (plan_mem _ _ _ _ h)).1
    · split at h
      · cases h
      · rcases List.mem_cons.1 h with rfl | h
        · simp
        · exact List.mem_cons_of_mem _ (plan_mem _ _ _ _ h)
theorem okE_ok : ∀ (i : Nat) (l : List Oper), okE i l = true → ∀ j o, l[j]? = some o → ∀ e ∈ o.after, Region.binds .any e = true → e.on < i + j
  | _, [], _, j, o, h => by simp at h
  | i, o' :: l, hk, 0, o, h => fun e he hb => by
    unfold okE at hk
    rw [Bool.and_eq_true, List.all_eq_true] at hk
    have e0 : o' = o := by simpa using h
    subst e0
    have := hk.1 e (by simpa using he)
    rw [hb] at this
    simpa using this
  | i, o' :: l, hk, j + 1, o, h => fun e he hb => by
    unfold okE at hk
    rw [Bool.and_eq_true] at hk
    have := okE_ok (i + 1) l hk.2 j o (by simpa using h) e he hb
    omega
end Go.Proofs.YtinpopjnnljkhaaGreatDoor
