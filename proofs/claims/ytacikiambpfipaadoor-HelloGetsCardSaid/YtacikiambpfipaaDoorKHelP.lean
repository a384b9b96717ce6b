/- Hellos as items: plain. No program in sight. -/
import Derived.Test.YtacikiambpfipaaDoorKA4
import Derived.Test.YtacikiambpfipaaDoorKCapP
namespace Go.Proofs.YtacikiambpfipaaDoor
set_option linter.unusedVariables false
set_option linter.unusedSimpArgs false

def numIt (n : Int) : It := .mk ⟨(minL n.toNat).toArray⟩ false []
def capIt (c : Cp) : It := .mk ⟨#[]⟩ true [.mk c.1 false [], numIt c.2]
def helIt (l m : Int) (cs : List Cp) : It := .mk ⟨#[]⟩ true [numIt l, numIt m, .mk ⟨#[]⟩ true (cs.map capIt)]
/-- The type whose values hellos' items are. -/
def capTy : Ty := .mk 5 0 [.mk 3 12 [] 0, .mk 1 1 [] 0] 0
def shp : Ty := .mk 5 0 [.mk 1 2 [] 0, .mk 1 2 [] 0, .mk 4 16 [capTy] 0] 0
theorem shp_may : shp.may = true := by
  simp [shp, capTy, Ty.may, Ty.count, Ty.deep, Ty.right, countT, deepT, rightT, tyOk]
/-- The number of an item: -1 if it is none, or above 65,535. -/
def vNt (l : Bool) (t : ByteArray) : Int := if l = true ∨ 2 < t.size ∨ (0 < t.size ∧ lead0 t.data.toList = true) then -1 else beL t.data.toList
def vN (x : It) : Int := vNt x.list x.text
def sub0 (x : It) : It := x.sub.getD 0 noIt
def sub1 (x : It) : It := x.sub.getD 1 noIt
def sub2 (x : It) : It := x.sub.getD 2 noIt
def cp1 (c : It) : Cp := ((sub0 c).text, vN (sub1 c))
def capBad (c : It) : Bool := decide (c.sub.length ≠ 2) || (sub0 c).list
def hOk (x : It) : Bool := decide (x.sub.length = 3) && ((sub2 x).list && (sub2 x).sub.all fun c => !capBad c)
def hL (x : It) : Int := vN (sub0 x)
def hM (x : It) : Int := vN (sub1 x)
def hC (x : It) : List Cp := (sub2 x).sub.map cp1

theorem vN_num (n : Int) (h1 : 1 ≤ n) (h2 : n ≤ 65535) : vN (numIt n) = n := by
  have hl := minL_length 2 n.toNat (by omega)
  have hne := minR_lead n.toNat (by omega)
  have hsz : (⟨(minL n.toNat).toArray⟩ : ByteArray).size = (minL n.toNat).length := by rw [size_of]
  have h0 : lead0 (minL n.toNat) = false := by
    cases hm : minL n.toNat with
    | nil => rfl
    | cons b l => rw [hm] at hne; simpa [lead0] using hne
  show vNt false ⟨(minL n.toNat).toArray⟩ = n
  unfold vNt
  rw [if_neg (by rw [hsz]; simp [h0]; omega)]
  show ((beL (minL n.toNat) : Nat) : Int) = n
  rw [minR_be]
  omega
theorem num_vN (x : It) (hr : x.right = true) (h : 1 ≤ vN x) : x = numIt (vN x) ∧ x.list = false := by
  obtain ⟨t, l, s⟩ := x
  change 1 ≤ vNt l t at h
  show It.mk t l s = numIt (vNt l t) ∧ l = false
  unfold vNt at h ⊢
  split at h
  · omega
  rename_i hn
  rw [if_neg hn]
  simp only [not_or, not_and, Bool.not_eq_true] at hn
  obtain ⟨h1, h2, h3⟩ := hn
  subst h1
  simp only [It.right, formed, Bool.and_eq_true] at hr
  have hs : s = [] := by simpa using hr.1
  subst hs
  refine ⟨?_, rfl⟩
  unfold numIt
  have hz : 0 < t.size := by
    rcases Nat.eq_zero_or_pos t.size with h0 | h0
    · exfalso
      have : t.data.toList = [] := List.eq_nil_of_length_eq_zero (by rw [toList_size]; exact h0)
      rw [this] at h
      simp [beL, leL] at h
    · exact h0
  have hl := h3 hz
  have hm : minL (beL t.data.toList) = t.data.toList := by
    apply beR_minL
    cases hd : t.data.toList with
    | nil => rw [hd] at h; simp [beL, leL] at h
    | cons b r => rw [hd] at hl; simpa [lead0] using hl
  rw [show ((beL t.data.toList : Nat) : Int).toNat = beL t.data.toList from by omega, hm]
theorem getD_map_cp (cs : List It) : ∀ i, i < cs.length → (cs.map cp1).getD i (⟨#[]⟩, 0) = cp1 (cs.getD i noIt) := by
  intro i hi
  rw [List.getD_eq_getElem?_getD, List.getD_eq_getElem?_getD, List.getElem?_map, List.getElem?_eq_getElem hi]
  rfl
theorem helB_parts {l m : Int} {cs : List Cp} (h : helB l m cs = true) : 1 ≤ l ∧ l ≤ m ∧ m ≤ 65535 ∧ cs.length ≤ 16 ∧ ∀ c ∈ cs, nmMay c.1 = true ∧ 1 ≤ c.2 ∧ c.2 ≤ 255 := by
  simp only [helB, Bool.and_eq_true, decide_eq_true_eq, capsB, List.all_eq_true, List.mem_range] at h
  refine ⟨h.1, h.2.1, h.2.2.1, h.2.2.2.1, fun c hc => ?_⟩
  obtain ⟨i, hi, rfl⟩ := List.getElem_of_mem hc
  have := h.2.2.2.2 i hi
  rw [okAt] at this
  rw [show cs.getD i (⟨#[]⟩, 0) = cs[i] from by rw [List.getD_eq_getElem?_getD, List.getElem?_eq_getElem hi]; rfl] at this
  simp only [Bool.and_eq_true, decide_eq_true_eq] at this
  exact ⟨this.1, this.2.1, this.2.2.1⟩
theorem numIt_right (n : Int) : (numIt n).right = true := by simp [numIt, It.right, formed, rightL]
theorem numIt_count (n : Int) : (numIt n).count = 1 := by simp [numIt, It.count, countL]
theorem numIt_deep (n : Int) : (numIt n).deep = 1 := by simp [numIt, It.deep, deepL]
theorem caps_facts (cs : List Cp) : rightL (cs.map capIt) = true ∧ countL (cs.map capIt) = 3 * cs.length ∧ deepL (cs.map capIt) ≤ 2 := by
  induction cs with
  | nil => simp [rightL, countL, deepL]
  | cons c cs ih =>
    obtain ⟨h1, h2, h3⟩ := ih
    simp only [List.map_cons, rightL, countL, deepL, List.length_cons, h1, h2, Bool.and_true]
    refine ⟨?_, ?_, ?_⟩
    · simp [capIt, It.right, formed, rightL, numIt_right, ByteArray.size]
    · simp [capIt, It.count, countL, numIt_count]; omega
    · have : (capIt c).deep = 2 := by simp [capIt, It.deep, deepL, numIt_deep]
      omega
theorem helIt_may {l m : Int} {cs : List Cp} (h : cs.length ≤ 16) : (helIt l m cs).may = true ∧ (helIt l m cs).deep ≤ 4 ∧ (helIt l m cs).count ≤ 60 := by
  obtain ⟨h1, h2, h3⟩ := caps_facts cs
  have hd : (helIt l m cs).deep ≤ 4 := by
    simp only [helIt, It.deep, deepL, numIt_deep]
    omega
  have hc : (helIt l m cs).count ≤ 60 := by
    simp only [helIt, It.count, countL, numIt_count]
    omega
  refine ⟨?_, hd, hc⟩
  rw [may_parts]
  refine ⟨?_, by omega, by omega⟩
  simp [helIt, It.right, formed, rightL, numIt_right, h1, ByteArray.size]
theorem helIt_caps {l m : Int} {cs : List Cp} (h : cs.length ≤ 16) : capsE (helIt l m cs) 16 1024 = 0 := by
  obtain ⟨h1, h2, h3⟩ := helIt_may (l := l) (m := m) h
  rw [capsE_zero]
  exact ⟨h1, by omega, by omega⟩
theorem num_of (n : Int) (k : Nat) (hk : k ≤ 2) (h1 : 1 ≤ n) (h2 : n.toNat < 2 ^ (8 * k)) : (numIt n).isOf (.mk 1 k [] 0) = true := by
  have hl := minL_length k n.toNat h2
  have hne := minR_lead n.toNat (by omega)
  have h0 : lead0 (minL n.toNat) = false := by
    cases hm : minL n.toNat with
    | nil => rfl
    | cons b l => rw [hm] at hne; simpa [lead0] using hne
  have hsz : (⟨(minL n.toNat).toArray⟩ : ByteArray).size = (minL n.toNat).length := by rw [size_of]
  simp only [numIt, It.isOf, isOfL, Bool.and_true, is1, Ty.kind_mk, if_true, Ty.size_mk]
  rw [hsz]
  simp [h0]
  omega
theorem capIt_of (c : Cp) (h1 : nmMay c.1 = true) (h2 : 1 ≤ c.2) (h3 : c.2 ≤ 255) : (capIt c).isOf capTy = true := by
  have hz := nmMay_size h1
  have hn := num_of c.2 1 (by omega) h2 (by omega)
  simp only [capIt, capTy, It.isOf, isOfL, is1, Ty.at, Ty.kind_mk, Ty.sub_mk, Ty.size_mk, Ty.tail_mk, List.length_cons, List.length_nil]
  simp
  exact ⟨by omega, by simpa using hn⟩
theorem capsL_of (cs : List Cp) (h : ∀ c ∈ cs, nmMay c.1 = true ∧ 1 ≤ c.2 ∧ c.2 ≤ 255) : ∀ i, isOfL (cs.map capIt) (.mk 4 16 [capTy] 0) i = true := by
  induction cs with
  | nil => intro i; simp [isOfL]
  | cons c cs ih =>
    intro i
    obtain ⟨h1, h2, h3⟩ := h c (by simp)
    simp only [List.map_cons, isOfL, Bool.and_eq_true]
    refine ⟨?_, ih (fun d hd => h d (by simp [hd])) _⟩
    have : (Ty.mk 4 16 [capTy] 0).at i = capTy := by simp [Ty.at]
    rw [this]
    exact capIt_of c h1 h2 h3
theorem helIt_fits {l m : Int} {cs : List Cp} (h : helB l m cs = true) : fitE shp (helIt l m cs) = 0 := by
  obtain ⟨h1, h2, h3, h4, h5⟩ := helB_parts h
  rw [fitE_zero]
  refine ⟨shp_may, (helIt_may h4).1, ?_⟩
  have a1 := num_of l 2 (by omega) h1 (by omega)
  have a2 := num_of m 2 (by omega) (by omega) (by omega)
  have a3 := capsL_of cs h5 0
  simp only [helIt, shp, It.isOf, isOfL, is1, Ty.at, Ty.kind_mk, Ty.sub_mk, Ty.size_mk, Ty.tail_mk, List.length_cons, List.length_nil]
  simp
  refine ⟨by simpa using a1, by simpa using a2, ?_, by simpa using a3⟩
  omega
theorem helIt_read {l m : Int} {cs : List Cp} (h : helB l m cs = true) : hOk (helIt l m cs) = true ∧ hL (helIt l m cs) = l ∧ hM (helIt l m cs) = m ∧ hC (helIt l m cs) = cs := by
  obtain ⟨h1, h2, h3, h4, h5⟩ := helB_parts h
  refine ⟨?_, vN_num l h1 (by omega), vN_num m (by omega) h3, ?_⟩
  · simp only [hOk, helIt, It.sub_mk, List.length_cons, List.length_nil, sub2, List.getD_cons_succ, List.getD_cons_zero, It.list_mk, Bool.and_eq_true, List.all_eq_true]
    refine ⟨by simp, by simp, ?_⟩
    intro c hc
    obtain ⟨d, _, rfl⟩ := List.mem_map.1 hc
    simp [capBad, capIt, sub0]
  · show (cs.map capIt).map cp1 = cs
    rw [List.map_map]
    refine (List.map_congr_left (fun c hc => ?_)).trans (List.map_id cs)
    obtain ⟨_, k2, k3⟩ := h5 c hc
    show ((sub0 (capIt c)).text, vN (sub1 (capIt c))) = c
    have : vN (sub1 (capIt c)) = c.2 := vN_num c.2 k2 (by omega)
    rw [this]; rfl
theorem rightL_mem {s : List It} (h : rightL s = true) : ∀ x ∈ s, x.right = true := by
  induction s with
  | nil => intro x hx; cases hx
  | cons y ys ih =>
    simp only [rightL, Bool.and_eq_true] at h
    intro x hx
    rcases List.mem_cons.1 hx with rfl | hx
    · exact h.1
    · exact ih h.2 x hx
theorem list_of_sub {x : It} (hr : x.right = true) (h : x.sub ≠ []) : x = .mk ⟨#[]⟩ true x.sub ∧ ∀ y ∈ x.sub, y.right = true := by
  obtain ⟨t, l, s⟩ := x
  simp only [It.sub_mk] at h ⊢
  simp only [It.right, formed, Bool.and_eq_true] at hr
  cases l with
  | false => simp at hr; exact absurd hr.1 h
  | true =>
    have ht : t = ⟨#[]⟩ := by
      have h0 : t.size = 0 := by simpa using hr.1
      exact bytes_ext (List.eq_nil_of_length_eq_zero (by rw [toList_size]; exact h0))
    subst ht
    exact ⟨rfl, rightL_mem hr.2⟩
theorem list_of_list {x : It} (hr : x.right = true) (h : x.list = true) : x = .mk ⟨#[]⟩ true x.sub ∧ ∀ y ∈ x.sub, y.right = true := by
  obtain ⟨t, l, s⟩ := x
  simp only [It.list_mk] at h
  subst h
  simp only [It.right, formed, Bool.and_eq_true] at hr
  have ht : t = ⟨#[]⟩ := by
    have h0 : t.size = 0 := by simpa using hr.1
    exact bytes_ext (List.eq_nil_of_length_eq_zero (by rw [toList_size]; exact h0))
  subst ht
  exact ⟨rfl, rightL_mem hr.2⟩
theorem text_of {x : It} (hr : x.right = true) (h : x.list = false) : x = .mk x.text false [] := by
  obtain ⟨t, l, s⟩ := x
  simp only [It.list_mk] at h
  subst h
  simp only [It.right, formed, Bool.and_eq_true] at hr
  have : s = [] := by simpa using hr.1
  rw [this]; rfl
/-- What is read as a hello that may be is that hello's item. -/
theorem read_helIt {x : It} (hm : x.right = true) (ho : hOk x = true) (hb : helB (hL x) (hM x) (hC x) = true) : x = helIt (hL x) (hM x) (hC x) := by
  obtain ⟨h1, h2, h3, h4, h5⟩ := helB_parts hb
  simp only [hOk, Bool.and_eq_true, decide_eq_true_eq, List.all_eq_true] at ho
  obtain ⟨o1, o2, o3⟩ := ho
  have hne : x.sub ≠ [] := fun e => by rw [e] at o1; simp at o1
  obtain ⟨k1, k2⟩ := list_of_sub hm hne
  match hs : x.sub, o1 with
  | [a, b, c], _ =>
    have e0 : sub0 x = a := by unfold sub0; rw [hs]; rfl
    have e1 : sub1 x = b := by unfold sub1; rw [hs]; rfl
    have e2 : sub2 x = c := by unfold sub2; rw [hs]; rfl
    rw [hs] at k1 k2
    have ra := k2 a (by simp)
    have rb := k2 b (by simp)
    have rc := k2 c (by simp)
    have na := num_vN a ra (by have := h1; unfold hL at this; rwa [e0] at this)
    have nb := num_vN b rb (by have : 1 ≤ hM x := by omega
                               unfold hM at this; rwa [e1] at this)
    obtain ⟨kc, kc2⟩ := list_of_list rc (by rw [← e2]; exact o2)
    have hcs : c.sub = (hC x).map capIt := by
      unfold hC
      rw [e2, List.map_map]
      refine ((List.map_congr_left (fun d hd => ?_)).trans (List.map_id c.sub)).symm
      have rd := kc2 d hd
      have bd := o3 d (by rw [e2]; exact hd)
      simp only [capBad, Bool.not_eq_true', Bool.or_eq_false_iff, decide_eq_false_iff_not, Decidable.not_not] at bd
      obtain ⟨d1, d2⟩ := bd
      have hdne : d.sub ≠ [] := fun e => by rw [e] at d1; simp at d1
      obtain ⟨kd, kd2⟩ := list_of_sub rd hdne
      have h5d := h5 (cp1 d) (by unfold hC; rw [e2]; exact List.mem_map_of_mem hd)
      match hds : d.sub, d1 with
      | [n, v], _ =>
        have f0 : sub0 d = n := by unfold sub0; rw [hds]; rfl
        have f1 : sub1 d = v := by unfold sub1; rw [hds]; rfl
        rw [hds] at kd kd2
        have nv := num_vN v (kd2 v (by simp)) (by have := h5d.2.1; unfold cp1 at this; rwa [f1] at this)
        have nn := text_of (kd2 n (by simp)) (by rw [← f0]; exact d2)
        show capIt (cp1 d) = d
        unfold capIt cp1
        rw [f0, f1]
        dsimp only
        rw [← nn, ← nv.1, ← kd]
    unfold helIt
    have ea : hL x = vN a := by unfold hL; rw [e0]
    have eb : hM x = vN b := by unfold hM; rw [e1]
    rw [ea, eb, ← na.1, ← nb.1, ← hcs, ← kc, ← k1]
theorem helIt_rlp {l m : Int} {cs : List Cp} (h : helB l m cs = true) : (helIt l m cs).rlp.length ≤ 20000 := by
  obtain ⟨h1, h2, h3, h4, h5⟩ := helB_parts h
  have hc := (helIt_may (l := l) (m := m) h4).2.2
  have hn : ∀ n : Int, n ≤ 65535 → (numIt n).total ≤ 2 := fun n hn => by
    simp only [numIt, It.total, totalL, Nat.add_zero]
    rw [size_of]
    exact minL_length 2 n.toNat (by omega)
  have ht : ∀ cs : List Cp, (∀ c ∈ cs, nmMay c.1 = true ∧ 1 ≤ c.2 ∧ c.2 ≤ 255) → totalL (cs.map capIt) ≤ 14 * cs.length := by
    intro cs
    induction cs with
    | nil => intro _; simp [totalL]
    | cons c cs ih =>
      intro hcs
      have h6 := ih fun d hd => hcs d (by simp [hd])
      obtain ⟨k1, k2, k3⟩ := hcs c (by simp)
      have k4 : c.1.size ≤ 12 := (nmMay_size k1).2
      have k5 := hn c.2 (by omega)
      simp only [List.map_cons, totalL, List.length_cons]
      have : (capIt c).total ≤ 14 := by
        have k6 : (capIt c).total = (⟨#[]⟩ : ByteArray).size + (c.1.size + 0 + ((numIt c.2).total + 0)) := by simp only [capIt, It.total, totalL]
        have k7 : (⟨#[]⟩ : ByteArray).size = 0 := rfl
        omega
      omega
  have h6 := ht cs h5
  have h7 := hn l (by omega)
  have h8 := hn m (by omega)
  have h9 : (helIt l m cs).total ≤ 300 := by
    have k6 : (helIt l m cs).total = (⟨#[]⟩ : ByteArray).size + ((numIt l).total + ((numIt m).total + ((⟨#[]⟩ : ByteArray).size + totalL (cs.map capIt) + 0))) := by simp only [helIt, It.total, totalL]
    have k7 : (⟨#[]⟩ : ByteArray).size = 0 := rfl
    omega
  have := rlp_total (helIt l m cs) (by omega)
  omega
/-- A value of that type is read. -/
theorem fits_read {x : It} (h : fitE shp x = 0) : hOk x = true ∧ (sub0 x).list = false ∧ (sub1 x).list = false ∧ (sub0 x).text.size ≤ 2 ∧ (sub1 x).text.size ≤ 2 ∧ lead0 (sub0 x).text.data.toList = false ∧ lead0 (sub1 x).text.data.toList = false ∧ (sub2 x).sub.length ≤ 16 ∧
    ∀ c ∈ (sub2 x).sub, c.sub.length = 2 ∧ (sub0 c).list = false ∧ (sub1 c).list = false ∧ (sub1 c).text.size ≤ 2 ∧ lead0 (sub1 c).text.data.toList = false := by
  rw [fitE_zero] at h
  obtain ⟨_, _, h⟩ := h
  obtain ⟨t, l, s⟩ := x
  simp only [It.isOf, shp, is1, Ty.kind_mk, Ty.sub_mk, Ty.size_mk, Ty.tail_mk, List.length_cons, List.length_nil, Bool.and_eq_true] at h
  simp at h
  obtain ⟨⟨⟨h1, h2⟩, h3⟩, h4⟩ := h
  match s, h2, h3, h4 with
  | [a, b, c], _, _, h4 =>
    simp only [isOfL, Ty.at, Ty.kind_mk, Ty.sub_mk, Bool.and_eq_true] at h4
    simp at h4
    obtain ⟨ha, hb, hc⟩ := h4
    obtain ⟨ta, la, sa⟩ := a
    obtain ⟨tb, lb, sb⟩ := b
    obtain ⟨tc, lc, sc⟩ := c
    simp [It.isOf, is1] at ha hb hc
    have hall : ∀ (sc : List It) (i : Nat), isOfL sc (.mk 4 16 [capTy] 0) i = true → ∀ d ∈ sc, d.isOf capTy = true := by
      intro sc
      induction sc with
      | nil => intro i _ d hd; cases hd
      | cons y ys ih =>
        intro i hi d hd
        simp only [isOfL, Bool.and_eq_true] at hi
        have e : (Ty.mk 4 16 [capTy] 0).at i = capTy := by simp [Ty.at]
        rw [e] at hi
        rcases List.mem_cons.1 hd with rfl | hd
        · exact hi.1
        · exact ih _ hi.2 d hd
    have hcap : ∀ d ∈ sc, d.sub.length = 2 ∧ (sub0 d).list = false ∧ (sub1 d).list = false ∧ (sub1 d).text.size ≤ 2 ∧ lead0 (sub1 d).text.data.toList = false := by
      intro d hd
      have hd := hall sc 0 hc.2 d hd
      obtain ⟨td, ld, sd⟩ := d
      simp only [It.isOf, capTy, is1, Ty.kind_mk, Ty.sub_mk, Ty.size_mk, Ty.tail_mk, List.length_cons, List.length_nil, Bool.and_eq_true] at hd
      simp at hd
      obtain ⟨⟨⟨d1, d2⟩, d3⟩, d4⟩ := hd
      match sd, d2, d3, d4 with
      | [n, v], _, _, d4 =>
        obtain ⟨tn, ln, sn⟩ := n
        obtain ⟨tv, lv, sv⟩ := v
        simp only [isOfL, Ty.at, Ty.kind_mk, Ty.sub_mk, Bool.and_eq_true] at d4
        simp [It.isOf, is1] at d4
        refine ⟨rfl, d4.1.1.1, d4.2.1.1.1, ?_, d4.2.1.2⟩
        have := d4.2.1.1.2
        show tv.size ≤ 2
        omega
    refine ⟨?_, ha.1.1.1, hb.1.1.1, ?_, ?_, ha.1.2, hb.1.2, ?_, hcap⟩
    · simp only [hOk, Bool.and_eq_true, decide_eq_true_eq, List.all_eq_true]
      refine ⟨rfl, hc.1.1, fun d hd => ?_⟩
      have := hcap d hd
      simp [capBad, this.1, this.2.1]
    · have := of_decide_eq_true ha.1.1.2
      show ta.size ≤ 2
      omega
    · have := of_decide_eq_true hb.1.1.2
      show tb.size ≤ 2
      omega
    · have := of_decide_eq_true hc.1.2
      show sc.length ≤ 16
      omega
/-- The shape of a value of that type. -/
theorem fits_shape {x : It} (h : fitE shp x = 0) : ∃ ta tb cs, x = .mk ⟨#[]⟩ true [.mk ta false [], .mk tb false [], .mk ⟨#[]⟩ true cs] ∧ ta.size ≤ 2 ∧ tb.size ≤ 2 ∧ lead0 ta.data.toList = false ∧ lead0 tb.data.toList = false ∧ cs.length ≤ 16 ∧
    ∀ c ∈ cs, ∃ tn tv, c = .mk ⟨#[]⟩ true [.mk tn false [], .mk tv false []] ∧ tv.size ≤ 2 ∧ lead0 tv.data.toList = false := by
  obtain ⟨ho, h1, h2, h3, h4, h5, h6, h7, h8⟩ := fits_read h
  have hr : x.right = true := ((may_parts x).1 ((fitE_zero shp x).1 h).2.1).1
  simp only [hOk, Bool.and_eq_true, decide_eq_true_eq, List.all_eq_true] at ho
  obtain ⟨o1, o2, o3⟩ := ho
  have hne : x.sub ≠ [] := fun e => by rw [e] at o1; simp at o1
  obtain ⟨k1, k2⟩ := list_of_sub hr hne
  match hs : x.sub, o1 with
  | [a, b, c], _ =>
    have e0 : sub0 x = a := by unfold sub0; rw [hs]; rfl
    have e1 : sub1 x = b := by unfold sub1; rw [hs]; rfl
    have e2 : sub2 x = c := by unfold sub2; rw [hs]; rfl
    rw [hs] at k1 k2
    rw [e0] at h1 h3 h5
    rw [e1] at h2 h4 h6
    rw [e2] at h7 h8 o2
    have ea := text_of (k2 a (by simp)) h1
    have eb := text_of (k2 b (by simp)) h2
    obtain ⟨ec, ec2⟩ := list_of_list (k2 c (by simp)) o2
    refine ⟨a.text, b.text, c.sub, ?_, h3, h4, h5, h6, h7, fun d hd => ?_⟩
    · rw [← ea, ← eb, ← ec, ← k1]
    · obtain ⟨d1, d2, d3, d4, d5⟩ := h8 d hd
      have hdne : d.sub ≠ [] := fun e => by rw [e] at d1; simp at d1
      obtain ⟨kd, kd2⟩ := list_of_sub (ec2 d hd) hdne
      match hds : d.sub, d1 with
      | [n, v], _ =>
        have f0 : sub0 d = n := by unfold sub0; rw [hds]; rfl
        have f1 : sub1 d = v := by unfold sub1; rw [hds]; rfl
        rw [hds] at kd kd2
        rw [f0] at d2
        rw [f1] at d3 d4 d5
        have en := text_of (kd2 n (by simp)) d2
        have ev := text_of (kd2 v (by simp)) d3
        exact ⟨n.text, v.text, by rw [← en, ← ev, ← kd], d4, d5⟩
end Go.Proofs.YtacikiambpfipaaDoor
