/-
  THE OPERATIONS ON ROWS, THE REST: storing into an element, a new row, append. Conditions: what is needed holds.
-/
import Derived.Test.YthgiaoidekdpfaaGreatSXOps3
import Derived.Laws.MakeOwn
set_option linter.all false
namespace Go.SX
open Go.RowKit

theorem store_row {C D R V : List Value} {p q m off : Nat} (hD : D = C.take q) (hR : R = (D.drop p).take m) (hi : p + m ≤ q) (hfit : off + V.length ≤ m) (hC : q ≤ C.length) :
    (C.take (p + off) ++ V ++ C.drop (p + off + V.length)).take q = D.take p ++ (R.take off ++ V ++ R.drop (off + V.length)) ++ D.drop (p + m) := by
  subst hR; subst hD
  apply List.ext_getElem?
  intro j
  have e1 : (C.take (p + off)).length = p + off := by simp; omega
  have e2 : ((C.take q).take p).length = p := by simp; omega
  have e3 : (((C.take q).drop p).take m).length = m := by simp; omega
  have e4 : ((((C.take q).drop p).take m).take off).length = off := by simp; omega
  by_cases h0 : j < q
  · rw [List.getElem?_take, if_pos h0]
    by_cases h1 : j < p
    · rw [List.append_assoc, List.append_assoc, List.getElem?_append_left (by omega), List.getElem?_append_left (by omega), List.getElem?_take, List.getElem?_take, List.getElem?_take, if_pos (by omega), if_pos h1, if_pos h0]
    · by_cases h2 : j < p + off
      · rw [List.append_assoc, List.append_assoc, List.append_assoc, List.append_assoc, List.getElem?_append_left (by omega), List.getElem?_append_right (by omega), e2, List.getElem?_append_left (by omega), List.getElem?_take, List.getElem?_take, List.getElem?_take, List.getElem?_drop, List.getElem?_take, if_pos h2, if_pos (by omega), if_pos (by omega), if_pos (by omega), show p + (j - p) = j from by omega]
      · by_cases h3 : j < p + off + V.length
        · rw [List.append_assoc, List.append_assoc, List.append_assoc, List.append_assoc, List.getElem?_append_right (by omega), e1, List.getElem?_append_left (by omega), List.getElem?_append_right (by omega), e2, List.getElem?_append_right (by omega), e4, List.getElem?_append_left (by omega), show j - p - off = j - (p + off) from by omega]
        · rw [List.getElem?_append_right (by simp only [List.length_append]; omega), List.getElem?_drop]
          have e5 : p + off + V.length + (j - (C.take (p + off) ++ V).length) = j := by simp only [List.length_append]; omega
          rw [e5]
          by_cases h4 : j < p + m
          · rw [List.append_assoc, List.getElem?_append_right (by omega), e2, List.getElem?_append_left (by simp only [List.length_append, List.length_drop]; omega), List.getElem?_append_right (by simp only [List.length_append]; omega), List.getElem?_drop]
            have e6 : off + V.length + (j - p - ((((C.take q).drop p).take m).take off ++ V).length) = j - p := by simp only [List.length_append]; omega
            rw [e6, List.getElem?_take, if_pos (by omega), List.getElem?_drop, show p + (j - p) = j from by omega, List.getElem?_take, if_pos h0]
          · rw [List.getElem?_append_right (by simp only [List.length_append, List.length_drop]; omega), List.getElem?_drop]
            have e6 : p + m + (j - ((C.take q).take p ++ ((((C.take q).drop p).take m).take off ++ V ++ (((C.take q).drop p).take m).drop (off + V.length))).length) = j := by simp only [List.length_append, List.length_drop]; omega
            rw [e6, List.getElem?_take, if_pos h0]
  · rw [List.getElem?_take, if_neg h0, List.getElem?_eq_none]
    simp only [List.length_append, List.length_drop, e2, e3, e4, List.length_take]
    omega

section each
variable {P : Program} {ce : CE} {o : Oper} {env : Env} {g : List (Nat × Bool)} {mem : Mem} {n : Nat} {e : Eff} {θ : Th} {a : Act} {w : World} {K : Act → World → Prop} {Q : Exit → Act → World → Prop}

theorem own_block {l : Loc} {ty esz m : Nat} {cells : List Value} (h : ownRel l w ty esz m cells) (hne : m ≠ 0) :
    ∃ b cap cur, l.blk = some b ∧ l.eye = some b ∧ l.ad = some ⟨b, 0, none⟩ ∧ l.cap = cap ∧ w.heap[b]? = some (.cells cur ty (0, 0)) ∧ m ≤ cap ∧ cap ≤ maxLen ∧ cur.size = cap * esz ∧ cur.toList.take (m * esz) = cells := by
  obtain ⟨h1, h2, h3, h4⟩ := h
  rcases h4 with ⟨_, hn⟩ | ⟨g, cap, cur, hv, _, hg, h5, h6, h7, h8⟩
  · exact absurd hn hne
  · rcases h2 with ⟨_, _, h9, _⟩ | ⟨b, h9, h10, h11⟩
    · rw [h9] at hv; injection hv with hv; cases hv
    · rw [h11] at hv
      injection hv with hv1 hv2 hv3
      have : b = g := by injection hv1 with h; injection h
      subst this
      exact ⟨b, cap, cur, h9, h10, h11, hv3, hg, h5, h6, h7, h8⟩

theorem snd_storeE {t : TypeId} {x y : Operand} {id esz off : Nat} {i : SN} {vs : List SC} (ho : o.op = .store t x y) (hx : arg env g x = some (.one (.eptr id esz i off))) (hy : (arg env g y).bind SV.cells = some vs)
    (h : storeE P t mem n id esz i off vs = some e) (hn : ∀ p ∈ e.needs, p)
    (hs : ∀ t ∈ slotsOf [x, y], ∀ y, look env t = some y → entRel θ a t y) (hg : holds a g) (hm : memRel θ (restrict mem e.rd) w)
    (hk : Then K o a n θ w (restrict mem e.touched) e) : o.wp P a w K Q := by
  obtain ⟨hsx, hsy⟩ := arg2 hs
  have ha := arg_spec hx hsx hg
  simp only [Option.bind_eq_some_iff] at hy
  obtain ⟨v, hy, h2⟩ := hy
  have hb := arg_spec hy hsy hg
  have hcells := SV.cells_den θ h2
  unfold storeE at h
  split at h
  case h_2 => cases h
  rename_i inf ty m r hi hl
  cases hq : (Nat.beq m esz && Nat.beq vs.length inf.size)
  · rw [hq] at h; cases h
  rw [hq] at h
  simp only [Bool.and_eq_true] at hq
  have hme := Nat.eq_of_beq_eq_true hq.1
  have hlen := Nat.eq_of_beq_eq_true hq.2
  subst hme
  simp only [cond_true] at h
  split at h
  case h_2 => cases h
  rename_i r' q hr
  cases h
  have hlr := look_sub hl (rd := [id]) (by simp)
  have hob : rowOk m r.rows ∧ ownRel (θ id) w ty m r.rows.length (dens θ r.rows.flatten) := hm.1 id _ hlr
  obtain ⟨hok, hown⟩ := hob
  obtain ⟨row, row', h4, h5, h6, h7, h8, h9⟩ := storeR_spec hr hn hok
  have hlt : i.val < r.rows.length := (List.getElem?_eq_some_iff.1 h4).1
  obtain ⟨b, cap, cur, hb1, hb2, hb3, hb4, hh, hc1, hc2, hc3, hc4⟩ := own_block hown (by omega)
  have hrows : ∀ r0 ∈ r.rows, r0.length = m := fun r0 h => (hok.2 r0 h).1
  have hpm : i.val * m + m ≤ r.rows.length * m := by
    have := Nat.mul_le_mul_right m (show i.val + 1 ≤ r.rows.length from hlt)
    rw [Nat.add_mul] at this; omega
  have hqc : r.rows.length * m ≤ cur.toList.length := by
    rw [Array.length_toList (xs := cur), hc3]; exact Nat.mul_le_mul_right _ hc1
  have hqc' : r.rows.length * m ≤ cur.size := by rw [Array.length_toList (xs := cur)] at hqc; exact hqc
  have hvl : (dens θ vs).length = vs.length := by simp [dens]
  have hst := run_storeCells_at P b (i.val * m + off) ty (dens θ vs) 0 cur w hh (by rw [hvl]; omega) (by
    intro v hv
    simp only [dens, List.mem_map] at hv
    obtain ⟨c, _, rfl⟩ := hv
    exact SC.den_oneCell θ c)
  simp only [Nat.add_zero] at hst
  have hR : dens θ row = ((dens θ r.rows.flatten).drop (i.val * m)).take m := by
    have := flatten_part hrows i.val 1
    rw [Nat.one_mul] at this
    simp only [dens, ← List.map_drop, ← List.map_take]
    rw [← this, List.drop_eq_getElem_cons hlt]
    have e1 : r.rows[i.val] = row := by
      have := List.getElem?_eq_getElem hlt
      rw [h4] at this; cases this; rfl
    simp [e1]
  have hnew : (cur.toList.take (i.val * m + off) ++ dens θ vs ++ cur.toList.drop (i.val * m + off + (dens θ vs).length)).take (r.rows.length * m) = dens θ r'.rows.flatten := by
    rw [store_row hc4.symm hR hpm (by rw [hvl]; exact h5) hqc, h6, flatten_set hrows h4 h7]
    simp only [dens, List.map_append, List.map_take, List.map_drop] at h9 ⊢
    rw [h9 θ]
    simp
  have hok' : rowOk m r'.rows := ⟨hok.1, fun r0 h0 => by
    rw [h6] at h0
    rcases List.mem_or_eq_of_mem_set h0 with h0 | h0
    · exact hok.2 r0 h0
    · rw [h0]; exact ⟨h7, h8⟩⟩
  have hlen' : r'.rows.length = r.rows.length := by rw [h6]; simp
  refine wp_skip' (w' := w.setRow b (cur.toList.take (i.val * m + off) ++ dens θ vs ++ cur.toList.drop (i.val * m + off + (dens θ vs).length)).toArray) ?_ (hk _ _ _ ⟨rfl, ⟨Agree.refl _ _, rfl, rfl, rfl, ?_, ?_, ?_, ?_⟩, ?_, ?_⟩)
  · unfold execOp
    simp only [ho]
    refine run_u ?_
    have hsz : (v.den θ).cells.size = inf.size := by rw [hcells]; simp [dens, hlen]
    rw [hb]
    generalize v.den θ = vd at hcells hsz
    simp only [Instr.storeAt, ha, SV.den, SC.den, hb3, Option.map_some, Instr.sureAddr, Sem.run_bind, Sem.run_pure, Result.andThen_ok, storeVar, sizeOf, typeInfo, run_program, hi, hsz, ne_eq, not_true_eq_false, if_false, Addr.add_mid, Nat.zero_add]
    rw [hcells]
    exact hst
  · simp [World.setRow]
  · intro b' hb' hno
    have hne : b ≠ b' := fun e => hno id _ hlr (e ▸ hb1)
    simp [World.setRow, Array.getElem?_modify, hne]
  · intro i' o' b hl' hb'
    obtain ⟨rfl, rfl⟩ := look_one hl'
    exact .inr ⟨_, _, hlr, hb'⟩
  · intro i' o' b hl' hb'
    obtain ⟨rfl, rfl⟩ := look_one hl'
    exact .inr ⟨_, _, hlr, hb'⟩
  · intro i' o' hl'
    obtain ⟨rfl, rfl⟩ := look_one hl'
    refine ⟨hok', by rw [hlen']; exact hown.1, hown.2.1, by rw [dens, List.length_map, flatten_length fun r0 h => (hok'.2 r0 h).1], .inr ⟨b, cap, _, ?_, Nat.zero_le _, setRow_heap w b _ _ ty _ hh, by rw [hlen']; exact hc1, hc2, ?_, by rw [hlen']; exact hnew⟩⟩
    · rw [hb3, hb4, hown.1, hlen']
    · simp only [List.size_toArray, List.length_append, List.length_take, List.length_drop, hvl, Array.length_toList] at hqc ⊢
      omega
  · intro i1 i2 o1 o2 b hl1 hl2 hne
    obtain ⟨rfl, rfl⟩ := look_one hl1
    obtain ⟨rfl, rfl⟩ := look_one hl2
    exact absurd rfl hne

theorem take_store {α : Type} {c v d : List α} {p q : Nat} (hd : c.take q = d) (hp : p + v.length ≤ q) (hq : q ≤ c.length) : (c.take p ++ v ++ c.drop (p + v.length)).take q = d.take p ++ v ++ d.drop (p + v.length) := by
  subst hd
  have l1 : (c.take p ++ v).length = p + v.length := by rw [List.length_append, List.length_take]; omega
  rw [List.take_append, l1, List.take_of_length_le (by rw [l1]; exact hp), List.take_take, Nat.min_eq_left (by omega), List.drop_take]
theorem snd_storeK {t : TypeId} {x y : Operand} {id esz off : Nat} {i : SN} {vs : List SC} (ho : o.op = .store t x y) (hx : arg env g x = some (.one (.eptr id esz i off))) (hy : (arg env g y).bind SV.cells = some vs)
    (h : storeK P t mem n id esz i off vs = some e)
    (hs : ∀ t ∈ slotsOf [x, y], ∀ y, look env t = some y → entRel θ a t y) (hg : holds a g) (hm : memRel θ (restrict mem e.rd) w)
    (hk : Then K o a n θ w (restrict mem e.touched) e) : o.wp P a w K Q := by
  obtain ⟨hsx, hsy⟩ := arg2 hs
  have ha := arg_spec hx hsx hg
  simp only [Option.bind_eq_some_iff] at hy
  obtain ⟨v, hy, h2⟩ := hy
  have hb := arg_spec hy hsy hg
  have hcells := SV.cells_den θ h2
  unfold storeK at h
  split at h
  case h_2 => cases h
  rename_i inf ty m len cs k hi hl
  cases hq : (Nat.beq m esz && (Nat.beq vs.length inf.size && (Nat.blt k len && Nat.ble (off + vs.length) m)))
  · rw [hq] at h; cases h
  rw [hq] at h; cases h
  simp only [Bool.and_eq_true] at hq
  have hme := Nat.eq_of_beq_eq_true hq.1
  have hlen := Nat.eq_of_beq_eq_true hq.2.1
  have hkl : k < len := Nat.le_of_ble_eq_true hq.2.2.1
  have hoff := Nat.le_of_ble_eq_true hq.2.2.2
  subst hme
  have hlr := look_sub hl (rd := [id]) (by simp)
  obtain ⟨hpos, hown⟩ : 0 < m ∧ ownRel (θ id) w ty m len (dens θ (untag cs)) := hm.1 id _ hlr
  have hcl : (dens θ (untag cs)).length = len * m := hown.2.2.1
  obtain ⟨b, cap, cur, hb1, hb2, hb3, hb4, hh, hc1, hc2, hc3, hc4⟩ := own_block hown (by omega)
  have hpm : k * m + off + vs.length ≤ len * m := by
    have := Nat.mul_le_mul_right m (show k + 1 ≤ len from hkl)
    rw [Nat.add_mul] at this; omega
  have hqc : len * m ≤ cur.toList.length := by
    rw [Array.length_toList (xs := cur), hc3]; exact Nat.mul_le_mul_right _ hc1
  have hqc' : len * m ≤ cur.size := by rw [Array.length_toList (xs := cur)] at hqc; exact hqc
  have hvl : (dens θ vs).length = vs.length := by simp [dens]
  have hst := run_storeCells_at P b (k * m + off) ty (dens θ vs) 0 cur w hh (by rw [hvl]; omega) (by
    intro v hv
    simp only [dens, List.mem_map] at hv
    obtain ⟨c, _, rfl⟩ := hv
    exact SC.den_oneCell θ c)
  simp only [Nat.add_zero] at hst
  have hfit : k * m + off + vs.length ≤ (untag cs).length := by
    have : (untag cs).length = len * m := by simpa [dens] using hcl
    omega
  have hnew : (cur.toList.take (k * m + off) ++ dens θ vs ++ cur.toList.drop (k * m + off + (dens θ vs).length)).take (len * m) = dens θ (untag (paste cs (k * m + off) (tagged n vs))) := by
    rw [untag_paste, untag_tagged, paste_eq _ _ _ hfit, hvl]
    have e1 : dens θ ((untag cs).take (k * m + off) ++ vs ++ (untag cs).drop (k * m + off + vs.length)) = (dens θ (untag cs)).take (k * m + off) ++ dens θ vs ++ (dens θ (untag cs)).drop (k * m + off + vs.length) := by
      simp [dens, List.map_take, List.map_drop]
    rw [e1, ← hvl]
    exact take_store hc4 (by rw [hvl]; omega) hqc
  have hlen' : (dens θ (untag (paste cs (k * m + off) (tagged n vs)))).length = len * m := by
    rw [untag_paste, untag_tagged]; simp only [dens, List.length_map, paste_length]; simpa [dens] using hcl
  refine wp_skip' (w' := w.setRow b (cur.toList.take (k * m + off) ++ dens θ vs ++ cur.toList.drop (k * m + off + (dens θ vs).length)).toArray) ?_ (hk _ _ _ ⟨rfl, ⟨Agree.refl _ _, rfl, rfl, rfl, ?_, ?_, ?_, ?_⟩, ?_, ?_⟩)
  · unfold execOp
    simp only [ho]
    refine run_u ?_
    have hsz : (v.den θ).cells.size = inf.size := by rw [hcells]; simp [dens, hlen]
    rw [hb]
    generalize v.den θ = vd at hcells hsz
    simp only [Instr.storeAt, ha, SV.den, SC.den, SN.val, hb3, Option.map_some, Instr.sureAddr, Sem.run_bind, Sem.run_pure, Result.andThen_ok, storeVar, sizeOf, typeInfo, run_program, hi, hsz, ne_eq, not_true_eq_false, if_false, Addr.add_mid, Nat.zero_add]
    rw [hcells]
    exact hst
  · simp [World.setRow]
  · intro b' hb' hno
    have hne : b ≠ b' := fun e => hno id _ hlr (e ▸ hb1)
    simp [World.setRow, Array.getElem?_modify, hne]
  · intro i' o' b hl' hb'
    obtain ⟨rfl, rfl⟩ := look_one hl'
    exact .inr ⟨_, _, hlr, hb'⟩
  · intro i' o' b hl' hb'
    obtain ⟨rfl, rfl⟩ := look_one hl'
    exact .inr ⟨_, _, hlr, hb'⟩
  · intro i' o' hl'
    obtain ⟨rfl, rfl⟩ := look_one hl'
    refine ⟨hpos, hown.1, hown.2.1, hlen', .inr ⟨b, cap, _, ?_, Nat.zero_le _, setRow_heap w b _ _ ty _ hh, hc1, hc2, ?_, hnew⟩⟩
    · rw [hb3, hb4, hown.1]
    · simp only [List.size_toArray, List.length_append, List.length_take, List.length_drop, hvl, Array.length_toList] at hqc ⊢
      omega
  · intro i1 i2 o1 o2 b hl1 hl2 hne
    obtain ⟨rfl, rfl⟩ := look_one hl1
    obtain ⟨rfl, rfl⟩ := look_one hl2
    exact absurd rfl hne

theorem fillS_length {place : Nat → Option (Nat × Nat)} : ∀ {ps : List (Nat × List SC)} {cells out : List SC}, fillS place cells ps = some out → out.length = cells.length
  | [], _, _, h => by cases h; rfl
  | (i, v) :: ps, cells, out, h => by
    simp only [fillS] at h
    split at h
    · cases h
    · rename_i off size hpl
      cases hq : (Nat.beq v.length size && Nat.ble (off + size) cells.length)
      · rw [hq] at h; cases h
      · rw [hq] at h
        rw [fillS_length h, paste_length]
theorem chunks_spec {esz : Nat} : ∀ {len : Nat} {cs : List SC}, cs.length = len * esz → (chunks esz len cs).flatten = cs ∧ (chunks esz len cs).length = len
  | 0, cs, h => by
    rw [Nat.zero_mul] at h
    exact ⟨by rw [List.eq_nil_of_length_eq_zero h]; rfl, rfl⟩
  | len + 1, cs, h => by
    obtain ⟨h1, h2⟩ := chunks_spec (esz := esz) (len := len) (cs := cs.drop esz) (by rw [List.length_drop, h, Nat.add_mul]; omega)
    exact ⟨by rw [chunks, List.flatten_cons, h1, List.take_append_drop], by rw [chunks, List.length_cons, h2]⟩
theorem plainRow_spec {esz : Nat} : ∀ {rows : List (List SC)}, plainRow esz rows = true → ∀ r ∈ rows, r.length = esz ∧ idsCs r = []
  | [], _, _, h => by cases h
  | r :: rs, h, q, hq => by
    simp only [plainRow, Bool.and_eq_true] at h
    rcases List.mem_cons.1 hq with rfl | hq
    · obtain ⟨l, hl⟩ := Option.isSome_iff_exists.1 h.1.2
      exact ⟨Nat.eq_of_beq_eq_true h.1.1, encCs_ids hl⟩
    · exact plainRow_spec h.2 q hq
theorem snd_buildS {t : TypeId} {len : Nat} {ps : Array (Nat × Operand)} (ho : o.op = .buildSlice t len ps) (h : buildS P t len (parts env g ps.toList) n = some e)
    (hs : ∀ t ∈ slotsOf (ps.toList.map (·.2)), ∀ y, look env t = some y → entRel θ a t y) (hg : holds a g)
    (hk : Then K o a n θ w (restrict mem e.touched) e) : o.wp P a w K Q := by
  unfold buildS at h
  split at h
  case h_2 => cases h
  rename_i el vs hu hv
  split at h
  case h_2 => cases h
  rename_i inf z hi hz
  cases hq : (Nat.blt 0 inf.size && (Nat.beq z.length inf.size && Nat.ble (len * inf.size) 16777216))
  · rw [hq] at h; cases h
  rw [hq] at h
  simp only [Bool.and_eq_true] at hq
  have hpos : 0 < inf.size := Nat.le_of_ble_eq_true hq.1
  have hzl := Nat.eq_of_beq_eq_true hq.2.1
  have hsmall := Nat.le_of_ble_eq_true hq.2.2
  simp only [cond_true] at h
  split at h
  case h_2 => cases h
  rename_i cs hf
  have hcl : cs.length = len * inf.size := by rw [fillS_length hf]; simp
  obtain ⟨hch1, hch2⟩ := chunks_spec hcl
  have hrows : (RowC.lit (n + 1) (chunks inf.size len cs)).rows = chunks inf.size len cs := rfl
  simp only [Option.bind_eq_some_iff] at hz
  obtain ⟨zv, hz1, hz2⟩ := hz
  obtain ⟨i', zval, h3, h4, h5, _⟩ := zeroOf_spec hz1 θ
  have hzc : zval.cells = (dens θ z).toArray := by rw [← h5]; exact SV.cells_den θ hz2
  have hparts := parts_spec (θ := θ) (a := a) hv hs hg
  have hfill := fillS_spec (θ := θ) (vs := (ps.map (fun (p : Nat × Operand) => (p.1, a.eval p.2))).toList) hf (by simpa using hparts)
  have hbase : (dens θ ((List.range (len * inf.size)).map fun j => (z[j % z.length]?).getD .nilp)).toArray = (Array.range (len * inf.size)).map (fun x => (if len * inf.size = 0 then (#[] : Array Value) else zval.cells)[x % (if len * inf.size = 0 then (#[] : Array Value) else zval.cells).size]!) := by
    apply Array.toList_inj.1
    simp only [dens, List.map_map, Array.toList_map, Array.toList_range]
    refine List.map_congr_left fun j hj => ?_
    have hj := List.mem_range.1 hj
    have hne : len * inf.size ≠ 0 := by omega
    have hlt : j % z.length < z.length := Nat.mod_lt _ (by omega)
    have hszz : zval.cells.size = z.length := by rw [hzc]; simp [dens]
    simp only [hne, if_false, Function.comp_apply, hszz]
    rw [List.getElem?_eq_getElem hlt, Option.getD_some, getElem!_def]
    have : zval.cells[j % z.length]? = some (z[j % z.length].den θ) := by rw [hzc]; simp [dens, hlt]
    rw [this]
  rw [hbase] at hfill
  have hexec : (execOp a.eval o).run P w = .ok (.value (.slice (some ⟨w.heap.size, 0, none⟩) len len)) (w.alloc (.cells (dens θ cs).toArray el)) := by
    unfold execOp
    simp only [ho]
    refine run_v ?_
    have hno : ¬ len * inf.size > 2 ^ 24 := by omega
    simp only [Instr.buildSlice, Sem.run_bind, run_underlying hu, Result.andThen_ok, sizeOf, typeInfo, run_program, hi, Sem.run_pure, if_neg hno]
    by_cases hz0 : len * inf.size = 0
    · rw [if_pos hz0] at hfill ⊢
      simp only [Sem.run_bind, Sem.run_pure, Result.andThen_ok, hfill, newRow]
      rfl
    · rw [if_neg hz0] at hfill ⊢
      simp only [Sem.run_bind, Sem.run_pure, Result.andThen_ok, run_zeroValue' h3 h4, hfill, newRow]
      rfl
  cases hp : plainRow inf.size (chunks inf.size len cs)
  · rw [hp, cond_false] at h
    cases hnn : noNew n (idsCs cs)
    · rw [hnn] at h; cases h
    rw [hnn] at h; cases h
    refine wp_value hexec (hk _ _ _ (new_obj (Loc.box w.heap.size) _ rfl rfl ?_ ⟨w.heap.size, Th.set_same _ _ _, ?_⟩ rfl rfl rfl (by simp) (fun b hb => Below.heap_alloc _ _ _ hb) (fun b hb => by cases hb; exact Nat.le_refl _)))
    · simp [SV.den, SC.den, Th.set_same, Loc.box]
    · rw [untag_tagged, dens_agree (Th.set_agree _ _ _) (noNew_spec hnn)]
      show (w.heap.push _)[w.heap.size]? = _
      simp
  rw [hp] at h; cases h
  refine wp_value hexec (hk _ _ _ (new_obj (Loc.row w.heap.size len len) _ rfl rfl ?_ ?_ rfl rfl rfl (by simp) (fun b hb => Below.heap_alloc _ _ _ hb) (fun b hb => by cases hb; exact Nat.le_refl _)))
  · simp [SV.den, SC.den, Th.set_same, Loc.row]
  · have hplain := plainRow_spec hp
    show rowOk inf.size _ ∧ ownRel _ _ el inf.size _ _
    rw [hrows, Th.set_same, hch1, hch2]
    have hd : dens (θ.set n (Loc.row w.heap.size len len)) cs = dens θ cs := dens_plain (by rw [← hch1]; exact idsCs_flatten fun r hr => (hplain r hr).2)
    rw [hd]
    have hmax : len ≤ maxLen := by
      have : len * 1 ≤ len * inf.size := Nat.mul_le_mul_left _ hpos
      simp only [maxLen]; omega
    refine ⟨⟨hpos, hplain⟩, rfl, .inr ⟨w.heap.size, rfl, rfl, rfl⟩, by simp [dens, hcl], .inr ⟨w.heap.size, len, _, rfl, Nat.zero_le _, heap_alloc_new w _, Nat.le_refl _, hmax, by simp [dens, hcl], ?_⟩⟩
    rw [List.take_of_length_le (by simp [dens, hcl])]

/-! #### append -/
theorem run_append_none {t ty el : TypeId} {inf : TypeInfo} (ht : P.underlying t = some (.slice el)) (hi : P.info? el = some inf) {b : Option Addr} {m c c' : Nat} (h : m ≤ c) :
    (Builtin.append_ #[t, t] ty #[.slice b m c, .slice none 0 c']).run P w = .ok (.slice b m c) w := by
  cases b <;> simp [Builtin.append_, run_underlying ht, sizeOf, typeInfo, hi, Builtin.lenOf, Builtin.firstCells, h, storeCells]
/-- What a slice holds that is appended. -/
theorem sourceR_spec {esz k : Nat} {sc : SC} {r : RowC} {l : SN} {t2 : List Nat} {q : List Prop} (h : sourceR mem k esz sc = some (r, l, t2, q)) (hpos : 0 < esz) (hq : ∀ p ∈ q, p) {rd : List Nat} (hrd : ∀ i ∈ t2, i ∈ rd) (hm : memRel θ (restrict mem rd) w) :
    rowOk esz r.rows ∧ l.val = r.rows.length ∧ ∃ ad c, sc.den θ = .slice ad r.rows.length c ∧ (ad = none → r.rows = []) ∧ ∀ a, ad = some a → ∀ (j : Nat) (u : Value), (dens θ r.rows.flatten)[j]? = some u → w.cell? (a.add j) = some u := by
  unfold sourceR at h
  split at h
  · cases h
    exact ⟨⟨hpos, fun r h => by cases h⟩, rfl, none, 0, rfl, fun _ => rfl, fun a h => by cases h⟩
  · rename_i id
    split at h
    case h_2 => cases h
    rename_i ro ty m r0 hl
    cases hme : Nat.beq m esz
    · rw [hme] at h; cases h
    rw [hme] at h; cases h
    have := Nat.eq_of_beq_eq_true hme; subst this
    obtain ⟨h1, h2, h3, h4⟩ := row_at (hm.1 id _ (look_sub hl (hrd id (by simp))))
    refine ⟨h1, rowLen_val _, (θ id).ad, (θ id).cap, by simp [SC.den, h2], fun hn => ?_, fun a ha => ?_⟩
    · cases hr : r.rows with
      | nil => rfl
      | cons x xs =>
        obtain ⟨a, ha, _⟩ := h4 (by rw [hr]; simp)
        rw [hn] at ha; cases ha
    · cases hr : r.rows with
      | nil => intro j u hu; simp [dens] at hu
      | cons x xs =>
        obtain ⟨a', ha', h5⟩ := h4 (by rw [hr]; simp)
        rw [ha] at ha'; cases ha'
        rw [← hr]; exact h5
  · rename_i id es off len
    split at h
    case h_2 => cases h
    rename_i ro ty m r0 hl
    cases hme : (Nat.beq m esz && Nat.beq es esz)
    · rw [hme] at h; cases h
    rw [hme] at h
    simp only [Bool.and_eq_true] at hme
    have e1 := Nat.eq_of_beq_eq_true hme.1
    have e2 := Nat.eq_of_beq_eq_true hme.2
    subst e1; subst e2
    simp only [cond_true] at h
    split at h
    case h_2 => cases h
    rename_i r' q' h1 h2
    cases h
    have h2 := leN_spec h2 hq
    rw [rowLen_val, addN_val] at h2
    have hrows := partRow_spec h1
    obtain ⟨h3, h4, h5, h6⟩ := row_at (hm.1 id _ (look_sub hl (hrd id (by simp))))
    have hlen : r.rows.length = l.val := by rw [hrows]; simp; omega
    refine ⟨⟨hpos, fun r1 hr => h3.2 r1 (by rw [hrows] at hr; exact List.mem_of_mem_drop (List.mem_of_mem_take hr))⟩, hlen.symm, _, _, by rw [hlen]; rfl, fun hn => ?_, fun a ha => ?_⟩
    · cases hr : r.rows with
      | nil => rfl
      | cons x xs =>
        rw [hr] at hlen
        simp only [List.length_cons] at hlen
        obtain ⟨a, ha, _⟩ := h6 (fun he => by rw [he] at h2; simp at h2; omega)
        rw [ha] at hn; cases hn
    · intro j u hu
      by_cases hz : l.val = 0
      · rw [List.eq_nil_of_length_eq_zero (hlen.trans hz)] at hu
        simp [dens] at hu
      · obtain ⟨a', ha', h7⟩ := h6 (fun he => by rw [he] at h2; simp at h2; omega)
        have hne : (θ id).cap ≠ off.val := by omega
        rw [ha', Option.map_some, if_neg hne] at ha
        cases ha
        rw [Addr.add_add]
        refine h7 _ u ?_
        rw [hrows, flatten_part (fun r hr => (h3.2 r hr).1)] at hu
        simp only [dens, List.map_take, List.map_drop, List.getElem?_take] at hu
        split at hu
        · rw [List.getElem?_drop] at hu; exact hu
        · cases hu
  · cases h
theorem roomOk_spec {b : Nat} {x y : SN} {q : List Prop} (h : roomOk b x y = some q) (hq : ∀ p ∈ q, p) : (x.val + y.val) * b ≤ 140737488355328 ∧ x.val + y.val ≤ 9223372036854775807 := by
  unfold roomOk at h
  split at h
  · rename_i p r
    cases hb : (Nat.ble ((p + r) * b) 140737488355328 && Nat.ble (p + r) 9223372036854775807)
    · rw [hb] at h; cases h
    · simp only [Bool.and_eq_true] at hb
      exact ⟨Nat.le_of_ble_eq_true hb.1, Nat.le_of_ble_eq_true hb.2⟩
  · cases h; exact ⟨hq _ (by simp), hq _ (by simp)⟩
/-- The row that is appended to. -/
theorem baseR_spec {el esz : Nat} {sc : SC} {r : RowC} {t1 : List Nat} (h : baseR mem el esz sc = some (r, t1)) (hpos : 0 < esz) {rd : List Nat} (hrd : ∀ i ∈ t1, i ∈ rd) (hm : memRel θ (restrict mem rd) w) :
    rowOk esz r.rows ∧ w.ownsRow 0 el esz (sc.den θ) r.rows.length (dens θ r.rows.flatten) ∧ (∀ b, (sc.den θ).ownBlock = some b → ∃ id ob, id ∈ t1 ∧ look mem id = some ob ∧ (θ id).blk = some b) := by
  unfold baseR at h
  split at h
  · cases h
    exact ⟨⟨hpos, fun r h => by cases h⟩, World.ownsRow_nil _ _ _ _, fun b hb => by cases hb⟩
  · rename_i id
    split at h
    case h_2 => cases h
    rename_i ty k r0 hl
    cases hme : (Nat.beq k esz && Nat.beq ty el)
    · rw [hme] at h; cases h
    rw [hme] at h; cases h
    simp only [Bool.and_eq_true] at hme
    have e1 := Nat.eq_of_beq_eq_true hme.1
    have e2 := Nat.eq_of_beq_eq_true hme.2
    subst e1; subst e2
    obtain ⟨h1, h2⟩ : rowOk k r.rows ∧ ownRel (θ id) w ty k r.rows.length (dens θ r.rows.flatten) := hm.1 id _ (look_sub hl (hrd id (by simp)))
    refine ⟨h1, by simpa [SC.den] using h2.2.2, fun b hb => ⟨id, _, by simp, hl, ?_⟩⟩
    rcases h2.2.1 with ⟨_, _, h3, _⟩ | ⟨b', h3, _, h4⟩
    · simp [SC.den, h3, Value.ownBlock] at hb
    · simp [SC.den, h4, Value.ownBlock] at hb
      rw [h3, hb]
  · cases h
theorem snd_appendS {c : Call} {t : TypeId} {x y : SV} (ho : o.op = .call c) (hc : c.callee = .builtin .append) (ht : c.argTypes.toList = [t, t]) (hx : args env g c.args.toList = some [x, y]) (h : appendS P t (some x) (some y) mem n = some e) (hn : ∀ p ∈ e.needs, p)
    (hm : memRel θ (restrict mem e.rd) w) (hs : ∀ t ∈ slotsOf c.args.toList, ∀ u, look env t = some u → entRel θ a t u) (hg : holds a g)
    (hk : Then K o a n θ w (restrict mem e.touched) e) : o.wp P a w K Q := by
  have ha := args_map (θ := θ) hx hs hg
  have ht := argTypes_two ht
  unfold appendS at h
  split at h
  case h_2 => cases h
  rename_i el sc xc hu hsx hsy
  cases hsx; cases hsy
  split at h
  case h_2 => cases h
  rename_i inf z hi hz
  cases hq : (Nat.blt 0 inf.size && Nat.beq z.length inf.size)
  · rw [hq] at h; cases h
  rw [hq] at h
  simp only [Bool.and_eq_true] at hq
  have hpos : 0 < inf.size := Nat.le_of_ble_eq_true hq.1
  have hzl := Nat.eq_of_beq_eq_true hq.2
  simp only [cond_true] at h
  split at h
  case h_2 => cases h
  rename_i r1 t1 r2 l2 t2 q h1 h2
  cases hmt : meets t1 t2
  · rw [hmt] at h
    simp only [cond_false] at h
    split at h
    case h_2 => cases h
    rename_i r q2 h3 h4
    cases h
    simp only [List.mem_append] at hn
    obtain ⟨hok1, hown, hblk⟩ := baseR_spec (θ := θ) (w := w) h1 hpos (rd := t1 ++ t2) (fun i hi => by simp [hi]) hm
    obtain ⟨hok2, hl2, ad, cc, hden, hnone, hsome⟩ := sourceR_spec (θ := θ) (w := w) h2 hpos (fun p hp => hn p (.inl hp)) (rd := t1 ++ t2) (fun i hi => by simp [hi]) hm
    obtain ⟨hb1, hb2⟩ := roomOk_spec h4 fun p hp => hn p (.inr hp)
    rw [rowLen_val, hl2] at hb1 hb2
    obtain ⟨hok, hrl, hrd⟩ := joinRows_spec h3 hok1 hok2
    have hcells : dens θ r.rows.flatten = dens θ r1.rows.flatten ++ dens θ r2.rows.flatten := by
      rw [dens_flatten, hrd θ, List.flatten_append, ← dens_flatten, ← dens_flatten]
    simp only [Option.bind_eq_some_iff] at hz
    obtain ⟨zv, hz1, hz2⟩ := hz
    obtain ⟨i', zval, h5, h6, h7, _⟩ := zeroOf_spec hz1 θ
    rw [hi] at h5; cases h5
    have hzc : zval.cells.size = inf.size := by rw [← h7, SV.cells_den θ hz2]; simp [dens, hzl]
    have key : ∃ v' w', (Builtin.append_ #[t, t] o.type #[sc.den θ, xc.den θ]).run P w = .ok v' w' ∧ w'.ownsRow 0 el inf.size v' r.rows.length (dens θ r.rows.flatten) ∧ w.grownBy w' (sc.den θ).ownBlock ∧
        (v'.ownBlock = (sc.den θ).ownBlock ∨ v'.ownBlock = some w.heap.size) := by
      rw [hcells, hrl, hden]
      cases ad with
      | some ad =>
        obtain ⟨v', w', k1, k2, k3, _, k5⟩ := run_append_own_at (P := P) w 0 t o.type el inf zval inf.size inf.bytes hu hi h6 rfl rfl hzc hpos (sc.den θ) r1.rows.length (dens θ r1.rows.flatten) hown ad r2.rows.length cc (dens θ r2.rows.flatten)
          (by rw [dens, List.length_map, flatten_length fun r hr => (hok2.2 r hr).1]) (hsome ad rfl) (by
            intro v hv
            simp only [dens, List.mem_map] at hv
            obtain ⟨c, _, rfl⟩ := hv
            exact SC.den_oneCell θ c) (by simp only [maxLen]; omega) hb1 (Nat.zero_le _)
        exact ⟨v', w', k1, k2, k3, k5⟩
      | none =>
        have hr2 := hnone rfl
        simp only [hr2, List.flatten_nil, List.length_nil, Nat.add_zero]
        have hnil : dens θ [] = [] := rfl
        rw [hnil, List.append_nil]
        have hsl : ∃ b cap, sc.den θ = .slice b r1.rows.length cap ∧ r1.rows.length ≤ cap := by
          rcases hown.2 with ⟨hv, hn0⟩ | ⟨g, cap, cur, hv, _, _, hle, _⟩
          · exact ⟨none, 0, by rw [hn0]; exact hv, by omega⟩
          · exact ⟨_, cap, hv, hle⟩
        obtain ⟨b, cap, hv, hle⟩ := hsl
        refine ⟨sc.den θ, w, ?_, hown, ⟨rfl, rfl, rfl, Nat.le_refl _, fun _ _ _ => rfl⟩, .inl rfl⟩
        rw [hv]
        exact run_append_none hu hi hle
    obtain ⟨v', w', k1, k2, k3, k5⟩ := key
    have hrun : (execOp a.eval o).run P w = .ok (.value v') w' := by
      refine run_builtin hc ho ?_
      rw [ha, ht]
      unfold Go.builtin
      simp only [List.map_cons, List.map_nil, SV.den]
      exact run_v k1
    -- where the new row lies
    obtain ⟨l, hl1, hl2, hl3⟩ : ∃ l : Loc, v' = .slice l.ad l.len l.cap ∧ ownRel l w' el inf.size r.rows.length (dens θ r.rows.flatten) ∧ l.eye = v'.ownBlock := by
      rcases k2.2 with ⟨hv, hn0⟩ | ⟨g, cap, cur, hv, rest⟩
      · exact ⟨Loc.none, hv, ⟨hn0.symm, .inl ⟨rfl, rfl, rfl, rfl⟩, by have := k2; rw [hv] at this; exact this⟩, by rw [hv]; rfl⟩
      · exact ⟨Loc.row g r.rows.length cap, hv, ⟨rfl, .inr ⟨g, rfl, rfl, rfl⟩, by have := k2; rw [hv] at this; exact this⟩, by rw [hv]; rfl⟩
    have hlb := ownRel_eye hl2
    have hblks : ∀ b, l.blk = some b → w.heap.size ≤ b ∨ ∃ id0 o0, look (restrict mem t1) id0 = some o0 ∧ (θ id0).blk = some b := by
      intro b hb
      rw [hlb, hl3] at hb
      rcases k5 with k5 | k5
      · rw [k5] at hb
        obtain ⟨id, ob, q1, q2, q3⟩ := hblk b hb
        exact .inr ⟨id, ob, look_sub q2 q1, q3⟩
      · rw [k5] at hb; cases hb; exact .inl (Nat.le_refl _)
    refine wp_value hrun (hk v' (θ.set n l) w' ⟨?_, ⟨Th.set_agree _ _ _, k3.os, k3.tape, k3.output, k3.size, fun b hb hno => k3.block b hb fun he => ?_, ?_, ?_⟩, ?_, ?_⟩)
    · simp [SV.den, SC.den, Th.set_same, hl1]
    · obtain ⟨id, ob, q1, q2, q3⟩ := hblk b he.symm
      exact hno id ob (look_sub q2 q1) q3
    · intro id o b hl' hb
      obtain ⟨rfl, rfl⟩ := look_one hl'
      rw [Th.set_same] at hb
      exact hblks b hb
    · intro id o b hl' hb
      obtain ⟨rfl, rfl⟩ := look_one hl'
      rw [Th.set_same] at hb
      rcases hblks b (hlb.trans hb) with h | ⟨id0, o0, q1, q2⟩
      · exact .inl h
      · refine .inr ⟨id0, o0, q1, ?_⟩
        rw [look_restrict] at q1
        split at q1
        · rename_i hmem
          exact objRel_eye (hm.1 id0 o0 (look_sub q1 (by simp [hmem]))) q2
        · cases q1
    · intro id o hl'
      obtain ⟨rfl, rfl⟩ := look_one hl'
      show rowOk inf.size r.rows ∧ ownRel _ _ el inf.size _ _
      rw [Th.set_same, dens_plain (θ := θ) hok.ids]
      exact ⟨hok, hl2⟩
    · intro i1 i2 o1 o2 b hl1 hl2 hne
      obtain ⟨rfl, rfl⟩ := look_one hl1
      obtain ⟨rfl, rfl⟩ := look_one hl2
      exact absurd rfl hne
  · rw [hmt] at h; cases h
theorem baseK_spec {el esz len : Nat} {sc : SC} {cs1 : List SC} {t1 : List Nat} (h : baseK mem el esz sc = some (cs1, len, t1)) {rd : List Nat} (hrd : ∀ i ∈ t1, i ∈ rd) (hm : memRel θ (restrict mem rd) w) :
    w.ownsRow 0 el esz (sc.den θ) len (dens θ cs1) ∧ (∀ b, (sc.den θ).ownBlock = some b → ∃ id ob, id ∈ t1 ∧ look mem id = some ob ∧ (θ id).blk = some b) := by
  unfold baseK at h
  split at h
  · cases h
    exact ⟨World.ownsRow_nil _ _ _ _, fun b hb => by cases hb⟩
  · rename_i id
    split at h
    case h_2 => cases h
    rename_i ty k len' cs hl
    cases hme : (Nat.beq k esz && Nat.beq ty el)
    · rw [hme] at h; cases h
    rw [hme] at h; cases h
    simp only [Bool.and_eq_true] at hme
    have e1 := Nat.eq_of_beq_eq_true hme.1
    have e2 := Nat.eq_of_beq_eq_true hme.2
    subst e1; subst e2
    obtain ⟨_, h2⟩ : 0 < k ∧ ownRel (θ id) w ty k len (dens θ (untag cs)) := hm.1 id _ (look_sub hl (hrd id (by simp)))
    refine ⟨by have := h2.2.2; rw [h2.1] at this; simpa [SC.den, h2.1] using this, fun b hb => ⟨id, _, by simp, hl, ?_⟩⟩
    rcases h2.2.1 with ⟨_, _, h3, _⟩ | ⟨b', h3, _, h4⟩
    · simp [SC.den, h3, Value.ownBlock] at hb
    · simp [SC.den, h4, Value.ownBlock] at hb
      rw [h3, hb]
  · cases h
theorem snd_appendK {c : Call} {t : TypeId} {x y : SV} (ho : o.op = .call c) (hc : c.callee = .builtin .append) (ht : c.argTypes.toList = [t, t]) (hx : args env g c.args.toList = some [x, y]) (h : appendK P t (some x) (some y) mem n = some e) (hn : ∀ p ∈ e.needs, p)
    (hm : memRel θ (restrict mem e.rd) w) (hs : ∀ t ∈ slotsOf c.args.toList, ∀ u, look env t = some u → entRel θ a t u) (hg : holds a g)
    (hk : Then K o a n θ w (restrict mem e.touched) e) : o.wp P a w K Q := by
  have ha := args_map (θ := θ) hx hs hg
  have ht := argTypes_two ht
  unfold appendK at h
  split at h
  case h_2 => cases h
  rename_i el sc id m hu hsx hsy
  cases hsx; cases hsy
  split at h
  case h_2 => cases h
  rename_i inf z ty2 cs hi hz hl
  cases hq : (Nat.blt 0 inf.size && (Nat.beq z.length inf.size && Nat.beq (untag cs).length (m * inf.size)))
  · rw [hq] at h; cases h
  rw [hq] at h
  simp only [Bool.and_eq_true] at hq
  have hpos : 0 < inf.size := Nat.le_of_ble_eq_true hq.1
  have hzl := Nat.eq_of_beq_eq_true hq.2.1
  have hcl := Nat.eq_of_beq_eq_true hq.2.2
  simp only [cond_true] at h
  split at h
  case h_2 => cases h
  rename_i cs1 len t1 q h1 h4
  cases hnn : noNew n (idsCs (cs1 ++ untag cs))
  · rw [hnn] at h; cases h
  rw [hnn] at h; cases h
  rw [h1] at h4
  obtain ⟨hown, hblk⟩ := baseK_spec (θ := θ) (w := w) h1 (rd := t1 ++ [id]) (fun i hi => by simp [hi]) hm
  obtain ⟨b2, hbox, hh⟩ : ∃ b, θ id = Loc.box b ∧ w.heap[b]? = some (.cells (dens θ (untag cs)).toArray ty2 (0, 0)) := hm.1 id _ (look_sub hl (by simp))
  obtain ⟨hb1, hb2⟩ := roomOk_spec h4 hn
  have hb1 : (len + m) * inf.bytes ≤ 140737488355328 := hb1
  have hb2 : len + m ≤ 9223372036854775807 := hb2
  simp only [Option.bind_eq_some_iff] at hz
  obtain ⟨zv, hz1, hz2⟩ := hz
  obtain ⟨i', zval, h5, h6, h7, _⟩ := zeroOf_spec hz1 θ
  rw [hi] at h5; cases h5
  have hzc : zval.cells.size = inf.size := by rw [← h7, SV.cells_den θ hz2]; simp [dens, hzl]
  have hden : (SC.bs id m).den θ = .slice (some ⟨b2, 0, none⟩) m m := by simp [SC.den, hbox, Loc.box]
  have hcells : dens θ (cs1 ++ untag cs) = dens θ cs1 ++ dens θ (untag cs) := by simp [dens]
  obtain ⟨v', w', k1, k2, k3, _, k5⟩ := run_append_own_at (P := P) w 0 t o.type el inf zval inf.size inf.bytes hu hi h6 rfl rfl hzc hpos (sc.den θ) len (dens θ cs1) hown ⟨b2, 0, none⟩ m m (dens θ (untag cs))
      (by rw [dens, List.length_map, hcl]) (fun j u hu' => by
        rw [Addr.add_mid]
        simp [World.cell?, hh, hu']) (by
        intro v hv
        simp only [dens, List.mem_map] at hv
        obtain ⟨c, _, rfl⟩ := hv
        exact SC.den_oneCell θ c) (by simp only [maxLen]; omega) hb1 (Nat.zero_le _)
  rw [← hcells] at k2
  have hrun : (execOp a.eval o).run P w = .ok (.value v') w' := by
    refine run_builtin hc ho ?_
    rw [ha, ht]
    unfold Go.builtin
    simp only [List.map_cons, List.map_nil, SV.den, hden]
    exact run_v k1
  obtain ⟨l, hl1, hl2, hl3⟩ : ∃ l : Loc, v' = .slice l.ad l.len l.cap ∧ ownRel l w' el inf.size (len + m) (dens θ (cs1 ++ untag cs)) ∧ l.eye = v'.ownBlock := by
    rcases k2.2 with ⟨hv, hn0⟩ | ⟨g, cap, cur, hv, rest⟩
    · exact ⟨Loc.none, hv, ⟨hn0.symm, .inl ⟨rfl, rfl, rfl, rfl⟩, by have := k2; rw [hv] at this; exact this⟩, by rw [hv]; rfl⟩
    · exact ⟨Loc.row g (len + m) cap, hv, ⟨rfl, .inr ⟨g, rfl, rfl, rfl⟩, by have := k2; rw [hv] at this; exact this⟩, by rw [hv]; rfl⟩
  have hlb := ownRel_eye hl2
  have hblks : ∀ b, l.blk = some b → w.heap.size ≤ b ∨ ∃ id0 o0, look (restrict mem t1) id0 = some o0 ∧ (θ id0).blk = some b := by
    intro b hb
    rw [hlb, hl3] at hb
    rcases k5 with k5 | k5
    · rw [k5] at hb
      obtain ⟨id, ob, q1, q2, q3⟩ := hblk b hb
      exact .inr ⟨id, ob, look_sub q2 q1, q3⟩
    · rw [k5] at hb; cases hb; exact .inl (Nat.le_refl _)
  refine wp_value hrun (hk v' (θ.set n l) w' ⟨?_, ⟨Th.set_agree _ _ _, k3.os, k3.tape, k3.output, k3.size, fun b hb hno => k3.block b hb fun he => ?_, ?_, ?_⟩, ?_, ?_⟩)
  · simp [SV.den, SC.den, Th.set_same, hl1]
  · obtain ⟨id, ob, q1, q2, q3⟩ := hblk b he.symm
    exact hno id ob (look_sub q2 q1) q3
  · intro id o b hl' hb
    obtain ⟨rfl, rfl⟩ := look_one hl'
    rw [Th.set_same] at hb
    exact hblks b hb
  · intro id o b hl' hb
    obtain ⟨rfl, rfl⟩ := look_one hl'
    rw [Th.set_same] at hb
    rcases hblks b (hlb.trans hb) with h | ⟨id0, o0, q1, q2⟩
    · exact .inl h
    · refine .inr ⟨id0, o0, q1, ?_⟩
      rw [look_restrict] at q1
      split at q1
      · rename_i hmem
        exact objRel_eye (hm.1 id0 o0 (look_sub q1 (by simp [hmem]))) q2
      · cases q1
  · intro id o hl'
    obtain ⟨rfl, rfl⟩ := look_one hl'
    show 0 < inf.size ∧ ownRel _ _ el inf.size _ _
    rw [Th.set_same, untag_tagged, dens_agree (Th.set_agree _ _ _) (noNew_spec hnn)]
    exact ⟨hpos, hl2⟩
  · intro i1 i2 o1 o2 b hl1 hl2 hne
    obtain ⟨rfl, rfl⟩ := look_one hl1
    obtain ⟨rfl, rfl⟩ := look_one hl2
    exact absurd rfl hne
/-! #### A row cut at its end, and a row of zeros -/
theorem snd_cutS {t : TypeId} {x : Operand} {lo hi : Option Operand} (ho : o.op = .slice t x lo hi none) (h : cutS P t (arg env g x) lo (cutHi env g hi) mem n = some e) (hn : ∀ p ∈ e.needs, p) (hm : memRel θ (restrict mem e.rd) w)
    (hs : ∀ t' ∈ slotsOf (Op.slice t x lo hi none).operands.toList, ∀ u, look env t' = some u → entRel θ a t' u) (hg : holds a g)
    (hk : Then K o a n θ w (restrict mem e.touched) e) : o.wp P a w K Q := by
  unfold cutS at h
  split at h
  case h_2 => cases h
  rename_i hh q1 hhe
  obtain ⟨_, hhi, hx⟩ := slots_slice (t := t) (lo := none) (hi := hi) (x := x)
  split at h
  case h_2 => cases h
  rename_i el id hu h1
  have ha := arg_spec h1 (fun t ht => hs t (hx t ht)) hg
  split at h
  case h_2 => cases h
  rename_i inf ty m r _ hi' hl
  cases hq : (Nat.beq inf.size m && Nat.beq ty el)
  · rw [hq] at h; cases h
  rw [hq] at h
  simp only [Bool.and_eq_true] at hq
  have hsz := Nat.eq_of_beq_eq_true hq.1
  simp only [cond_true] at h
  split at h
  case h_2 => cases h
  rename_i r' q2 h2 h3
  cases h
  simp only [List.mem_append] at hn
  have h3 := leN_spec h3 fun p hp => hn p (.inr hp)
  rw [rowLen_val] at h3
  have hlr := look_sub hl (rd := [id]) (by simp)
  obtain ⟨_, h6, hcap, _⟩ := row_at (hm.1 id _ hlr)
  obtain ⟨hok, hown⟩ : rowOk m r.rows ∧ ownRel (θ id) w ty m r.rows.length (dens θ r.rows.flatten) := hm.1 id _ hlr
  have hrows := partRow_spec h2
  simp only [SN.val_c, List.drop_zero] at hrows
  have hrl : r'.rows.length = hh.val := by rw [hrows, List.length_take]; omega
  have hok' : rowOk m r'.rows := ⟨hok.1, fun r1 hr => hok.2 r1 (by rw [hrows] at hr; exact List.mem_of_mem_take hr)⟩
  have hcells : dens θ r'.rows.flatten = (dens θ r.rows.flatten).take (hh.val * m) := by
    have := flatten_part (fun r0 h => (hok.2 r0 h).1) 0 hh.val
    simp only [List.drop_zero, Nat.zero_mul] at this
    rw [hrows, this]
    simp only [dens, List.map_take]
  have hown' : ownRel { θ id with len := hh.val } w ty m r'.rows.length (dens θ r'.rows.flatten) := by
    rw [hrl]
    refine ⟨rfl, hown.2.1, ?_, ?_⟩
    · rw [hcells, List.length_take, hown.2.2.1, Nat.min_eq_left (Nat.mul_le_mul_right _ h3)]
    · rcases hown.2.2.2 with ⟨hv, hz⟩ | ⟨g', cap, cur, hv, h7, h8, h9, h10, h11, h12⟩
      · refine .inl ⟨?_, by omega⟩
        injection hv with e1 e2 e3
        rw [e1, e3, show hh.val = 0 from by omega]
      · refine .inr ⟨g', cap, cur, ?_, h7, h8, by omega, h10, h11, ?_⟩
        · injection hv with e1 e2 e3
          rw [e1, e3]
        · rw [hcells, ← h12, List.take_take, Nat.min_eq_left (Nat.mul_le_mul_right _ h3)]
  cases hi with
  | none => cases hhe
  | some y =>
  obtain ⟨j', i', e1', e2', e3'⟩ := boundOf_some (d := .c 0) hhe (fun p hp => hn p (.inl hp)) (fun t ht => hs t (hhi y rfl t ht)) hg
  have hrun : (execOp a.eval o).run P w = .ok (.value (.slice (θ id).ad hh.val (θ id).cap)) w := by
    unfold execOp
    simp only [ho]
    refine run_v ?_
    have hbounds : (Instr.sliceBounds true (θ id).len (θ id).cap none (some (a.eval y)) none).run P w = .ok (0, hh.val, (θ id).cap) w := by
      have bnd : ∀ (j : IntKind) (i : Int) (y k : Nat) (c : BoundsCode), 0 ≤ i → i.toNat = k → k ≤ y → (Instr.sliceBound (.int j i) y c).run P w = .ok k w := by
        intro j i y k c h0 h1 h2
        rw [run_sliceBound w j i y c h0 (by omega), h1]
      simp [Instr.sliceBounds, e1', bnd j' i' _ _ _ e2' e3' (Nat.le_trans h3 hcap)]
    simp only [ha, SV.den, SC.den, Instr.sliceAt, Sem.run_bind, run_underlying hu, Result.andThen_ok, Instr.slice, Option.map_none, Option.map_some, hbounds, sizeOf, typeInfo, run_program, hi', Sem.run_pure, hsz]
    cases (θ id).ad <;> simp [Addr.add_zero']
  refine wp_value hrun (hk _ (θ.set n { θ id with len := hh.val }) w ⟨?_, ⟨Th.set_agree _ _ _, rfl, rfl, rfl, Nat.le_refl _, fun b hb hno => rfl, ?_, ?_⟩, ?_, ?_⟩)
  · simp [SV.den, SC.den, Th.set_same]
  · intro id' o b hl' hb
    obtain ⟨rfl, rfl⟩ := look_one hl'
    rw [Th.set_same] at hb
    exact .inr ⟨id, _, hlr, hb⟩
  · intro id' o b hl' hb
    obtain ⟨rfl, rfl⟩ := look_one hl'
    rw [Th.set_same] at hb
    exact .inr ⟨id, _, hlr, hb⟩
  · intro id' o hl'
    obtain ⟨rfl, rfl⟩ := look_one hl'
    show rowOk m r'.rows ∧ ownRel _ _ ty m _ _
    rw [Th.set_same, dens_plain (θ := θ) hok'.ids]
    exact ⟨hok', hown'⟩
  · intro i1 i2 o1 o2 b hl1 hl2 hne
    obtain ⟨rfl, rfl⟩ := look_one hl1
    obtain ⟨rfl, rfl⟩ := look_one hl2
    exact absurd rfl hne
theorem snd_sliceOrCut {t : TypeId} {x : Operand} {lo hi : Option Operand} (ho : o.op = .slice t x lo hi none) (h : sliceOrCut P t (arg env g x) env g lo hi mem n = some e) (hn : ∀ p ∈ e.needs, p) (hm : memRel θ (restrict mem e.rd) w)
    (hs : ∀ t' ∈ slotsOf (Op.slice t x lo hi none).operands.toList, ∀ u, look env t' = some u → entRel θ a t' u) (hg : holds a g)
    (hk : Then K o a n θ w (restrict mem e.touched) e) : o.wp P a w K Q := by
  unfold sliceOrCut at h
  split at h
  · rename_i e' h'
    cases h
    exact snd_cutS ho h' hn hm hs hg hk
  · rcases orO_cases h with h | h
    · exact snd_sliceS ho h hn hm hs hg hk
    · exact snd_sliceK ho h hn hm hs hg hk

theorem flatten_replicate_get {α : Type} {L : List α} (hpos : 0 < L.length) : ∀ (k j : Nat), (List.replicate k L).flatten[j]? = if j < k * L.length then L[j % L.length]? else none
  | 0, j => by simp
  | k + 1, j => by
    rw [List.replicate_succ, List.flatten_cons]
    by_cases h : j < L.length
    · rw [List.getElem?_append_left h, if_pos (by rw [Nat.add_mul]; omega), Nat.mod_eq_of_lt h]
    · rw [List.getElem?_append_right (by omega), flatten_replicate_get hpos k, Nat.add_mul, Nat.one_mul, ← Nat.mod_eq_sub_mod (by omega)]
      by_cases h2 : j < k * L.length + L.length
      · rw [if_pos h2, if_pos (by omega)]
      · rw [if_neg h2, if_neg (by omega)]
theorem snd_makeS {t : TypeId} {x y : Operand} (ho : o.op = .makeSlice t x y) (h : makeS P t (sameOp x y) (arg env g x) n = some e) (hn : ∀ p ∈ e.needs, p)
    (hs : ∀ t' ∈ slotsOf [x, y], ∀ u, look env t' = some u → entRel θ a t' u) (hg : holds a g)
    (hk : Then K o a n θ w (restrict mem e.touched) e) : o.wp P a w K Q := by
  obtain ⟨hsx, _⟩ := arg2 hs
  unfold makeS at h
  split at h
  case h_2 => cases h
  rename_i el kd l hu hx
  have ha := arg_spec hx hsx hg
  split at h
  case h_2 => cases h
  rename_i inf z k q1 hi hz hnat
  split at h
  case h_2 => cases h
  rename_i ks q2 _ hroom
  split at h
  case h_2 => cases h
  rename_i zs hzs
  cases hq : (sameOp x y && (Nat.blt 0 inf.size && Nat.beq z.length inf.size))
  · rw [hq] at h; cases h
  rw [hq] at h; cases h
  simp only [Bool.and_eq_true] at hq
  have hpos : 0 < inf.size := Nat.le_of_ble_eq_true hq.2.1
  have hzl := Nat.eq_of_beq_eq_true hq.2.2
  simp only [List.mem_append] at hn
  obtain ⟨hl0, hlk⟩ := natOf_spec hnat fun p hp => hn p (.inl hp)
  obtain ⟨hb1, hb2⟩ := roomOk_spec hroom fun p hp => hn p (.inr hp)
  simp only [SN.val_c, Nat.add_zero] at hb1 hb2
  have hxy : x = y := by
    have := hq.1
    unfold sameOp at this
    split at this
    · rw [Nat.eq_of_beq_eq_true this]
    · cases this
  subst hxy
  simp only [Option.bind_eq_some_iff] at hz
  obtain ⟨zv, hz1, hz2⟩ := hz
  obtain ⟨i', zval, h5, h6, h7, _⟩ := zeroOf_spec hz1 θ
  rw [hi] at h5; cases h5
  have hzc : zval.cells = (dens θ z).toArray := by rw [← h7]; exact SV.cells_den θ hz2
  obtain ⟨hks, _, hdec⟩ := fit_dec hzs
  have hlen : l.val = (k.val : Int) := by omega
  have hrun := run_make (P := P) w t el inf zval hu hi h6 kd kd l.val l.val hl0 (Int.le_refl _) (by
    rw [hlen]
    have : ((inf.bytes * k.val : Nat) : Int) ≤ 281474976710656 := by
      have := Nat.mul_comm k.val inf.bytes
      omega
    rwa [Int.natCast_mul] at this) (by omega)
  rw [hlk] at hrun
  have hrowsE : (RowC.lst (n + 1) ks (List.replicate k.val zs)).rows = List.replicate k.val (decode ks zs) := by simp [RowC.rows]
  have hrl : (RowC.lst (n + 1) ks (List.replicate k.val zs)).rows.length = k.val := by rw [hrowsE]; simp
  have hok : rowOk inf.size (RowC.lst (n + 1) ks (List.replicate k.val zs)).rows := ⟨hpos, fun r hr => by
    rw [hrowsE] at hr
    have := List.eq_of_mem_replicate hr
    subst this
    exact ⟨by rw [decode, decodeF_length, hks, hzl], decodeF_ids _ _ _⟩⟩
  have hdl : (dens θ z).length = inf.size := by simp [dens, hzl]
  have hcells : dens θ (RowC.lst (n + 1) ks (List.replicate k.val zs)).rows.flatten = (madeCells zval.cells (k.val * inf.size)).toList := by
    rw [dens_flatten, hrowsE, List.map_replicate, hdec θ]
    apply List.ext_getElem?
    intro j
    rw [flatten_replicate_get (by omega), hdl]
    simp only [madeCells, Array.toList_map, Array.toList_range, List.getElem?_map, List.getElem?_range]
    by_cases hj : j < k.val * inf.size
    · have hlt : j % inf.size < (dens θ z).length := by rw [hdl]; exact Nat.mod_lt _ hpos
      rw [if_pos hj, List.getElem?_range hj, Option.map_some, hzc]
      simp only [List.size_toArray, hdl]
      rw [getElem!_def, List.getElem?_toArray, List.getElem?_eq_getElem hlt]
    · rw [if_neg hj, List.getElem?_eq_none (by simp; omega)]
      rfl
  refine wp_value (v := .slice (some ⟨w.heap.size, 0, none⟩) k.val k.val) (w' := w.alloc (.cells (madeCells zval.cells (k.val * inf.size)) el)) ?_ (hk _ _ _ (new_obj (Loc.row w.heap.size k.val k.val) _ rfl rfl ?_ ?_ rfl rfl rfl (by simp) (fun b hb => Below.heap_alloc _ _ _ hb) (fun b hb => by cases hb; exact Nat.le_refl _)))
  · unfold execOp
    simp only [ho]
    refine run_v ?_
    rw [ha]
    exact hrun
  · simp [SV.den, SC.den, Th.set_same, Loc.row]
  · show rowOk inf.size _ ∧ ownRel _ _ el inf.size _ _
    rw [Th.set_same, dens_plain (θ := θ) hok.ids, hrl, hcells]
    refine ⟨hok, rfl, .inr ⟨w.heap.size, rfl, rfl, rfl⟩, by simp [size_madeCells], .inr ⟨w.heap.size, k.val, _, rfl, Nat.zero_le _, heap_alloc_new w _, Nat.le_refl _, by simp only [maxLen]; omega, size_madeCells _ _, ?_⟩⟩
    rw [List.take_of_length_le (by simp [size_madeCells])]
theorem snd_builtin {c : Call} {b : Builtin} (ho : o.op = .call c) (hc : c.callee = .builtin b) (h : builtinS P b c.argTypes.toList (args env g c.args.toList) mem n = some e) (hn : ∀ p ∈ e.needs, p)
    (hm : memRel θ (restrict mem e.rd) w) (hs : ∀ t ∈ slotsOf c.args.toList, ∀ u, look env t = some u → entRel θ a t u) (hg : holds a g)
    (hk : Then K o a n θ w (restrict mem e.touched) e) : o.wp P a w K Q := by
  unfold builtinS at h
  split at h
  · rename_i t x h1 h2
    rcases orO_cases h with h | h
    · exact snd_lenS ho hc h1 h2 h hm hs hg hk
    · exact snd_lenK ho hc h1 h2 h hm hs hg hk
  · rename_i t u s x h1 h2
    cases htu : Nat.beq t u
    · rw [htu] at h; cases h
    · rw [htu] at h
      have := Nat.eq_of_beq_eq_true htu; subst this
      rcases orO_cases h with h | h
      · exact snd_appendS ho hc h1 h2 h hn hm hs hg hk
      · exact snd_appendK ho hc h1 h2 h hn hm hs hg hk
  · exact snd_minmax (m2 := Builtin.min2) ho hc (fun x r => by simp [Go.builtin, Builtin.min_]) (fun k j x y => by simp [Builtin.min2, minI_val]) h hs hg hk
  · exact snd_minmax (m2 := Builtin.max2) ho hc (fun x r => by simp [Go.builtin, Builtin.max_]) (fun k j x y => by simp [Builtin.max2, maxI_val]) h hs hg hk
  · cases h
end each
end Go.SX
