/- Groups and clusters, plainly: what the calls do, and what stays true. -/
import Derived.Test.YtbafofldgkigmaaGreatDoorCluster
namespace Go.Proofs.YtbafofldgkigmaaGreatDoor
namespace Gl
structure Gs where
  most : Int
  lg : Int
  ln : Int
  G : List (Int × Bool)
  L : List Cluster
def Gs.openG (s : Gs) (b : Bool) : Gs × Int × Int := if s.most ≤ s.G.length then (s, 0, 171) else ({ s with lg := s.lg + 1, G := s.G ++ [(s.lg + 1, b)] }, s.lg + 1, 0)
def Gs.dropG (s : Gs) (n : Int) : Gs × Int := match lookB s.G n with | none => (s, 170) | some _ => ({ s with G := s.G.filter (fun e => decide (e.1 ≠ n)), L := s.L.filter (fun c => decide (c.grp ≠ n)) }, 0)
def Gs.findK (s : Gs) (n : Int) (k : Bs) : Option Cluster := s.L.find? (fun c => decide (c.grp = n ∧ c.key = k))
def Gs.cluster (s : Gs) (n : Int) (o : Origin) (S : List Bs) : Gs × Cluster × Int := match lookB s.G n with
  | none => (s, cluster0, 170)
  | some iso => match s.findK n (keyOf o iso S) with
    | some c => (s, c, 0)
    | none => if 4 * s.most ≤ s.L.length then (s, cluster0, 171) else ({ s with ln := s.ln + 1, L := s.L ++ [⟨s.ln + 1, n, keyOf o iso S, iso⟩] }, ⟨s.ln + 1, n, keyOf o iso S, iso⟩, 0)
def Gs.findC (s : Gs) (id : Int) : Cluster × Int := match s.L.find? (fun c => decide (c.id = id)) with | none => (cluster0, 170) | some c => (c, 0)
def cEnt (c : Cluster) : Int × Cluster := (c.id, c)
def aEnt (c : Cluster) : Int × Bs × Int := (c.grp, c.key, c.id)
structure Gs.Ok (s : Gs) (k : Int) : Prop where
  g : s.G.Pairwise (fun a b => a.1 < b.1)
  gl : ∀ e ∈ s.G, 1 ≤ e.1 ∧ e.1 ≤ s.lg
  c : s.L.Pairwise (fun a b => a.id < b.id)
  cl : ∀ c ∈ s.L, 1 ≤ c.id ∧ c.id ≤ s.ln
  iso : ∀ c ∈ s.L, lookB s.G c.grp = some c.iso
  pl : s.L.Pairwise (fun a b => ¬(a.grp = b.grp ∧ a.key = b.key))
  m1 : 1 ≤ s.most
  m2 : s.most ≤ 200
  gm : (s.G.length : Int) ≤ s.most
  cm : (s.L.length : Int) ≤ 4 * s.most
  lg0 : 0 ≤ s.lg
  lgk : s.lg ≤ k
  ln0 : 0 ≤ s.ln
  lnk : s.ln ≤ k
end Gl
theorem lookB_mem {G : List (Int × Bool)} {n : Int} {b : Bool} (h : Gl.lookB G n = some b) : (n, b) ∈ G := by
  induction G with
  | nil => simp [Gl.lookB] at h
  | cons a r ih =>
    obtain ⟨x, y⟩ := a
    unfold Gl.lookB at h
    by_cases q : n = x
    · simp only [q, if_true, Option.some.injEq] at h
      simp [q, h]
    · simp only [q, if_false] at h
      exact List.mem_cons_of_mem _ (ih h)
theorem lookB_append (G : List (Int × Bool)) (e : Int × Bool) (n : Int) {b : Bool} (h : Gl.lookB G n = some b) : Gl.lookB (G ++ [e]) n = some b := by
  induction G with
  | nil => simp [Gl.lookB] at h
  | cons a r ih =>
    obtain ⟨x, y⟩ := a
    unfold Gl.lookB at h
    show Gl.lookB ((x, y) :: (r ++ [e])) n = _
    unfold Gl.lookB
    by_cases q : n = x
    · simpa [q] using h
    · simp only [q, if_false] at h ⊢
      exact ih h
theorem lookB_filter (G : List (Int × Bool)) (m n : Int) (hn : n ≠ m) : Gl.lookB (G.filter (fun e => decide (e.1 ≠ m))) n = Gl.lookB G n := by
  induction G with
  | nil => rfl
  | cons a r ih =>
    obtain ⟨x, y⟩ := a
    by_cases q : x = m
    · rw [List.filter_cons_of_neg (by simp [q]), ih]
      conv => rhs; unfold Gl.lookB
      rw [if_neg (by rw [q]; exact hn)]
    · rw [List.filter_cons_of_pos (by simpa using q)]
      unfold Gl.lookB
      rw [ih]
theorem lookB_nodup {G : List (Int × Bool)} (h : G.Pairwise (fun a b => a.1 < b.1)) {e : Int × Bool} (he : e ∈ G) : Gl.lookB G e.1 = some e.2 := by
  induction G with
  | nil => simp at he
  | cons a r ih =>
    obtain ⟨h1, h2⟩ := List.pairwise_cons.1 h
    obtain ⟨x, y⟩ := a
    unfold Gl.lookB
    rcases List.mem_cons.1 he with rfl | he
    · simp
    · have := h1 e he
      simp only at this
      rw [if_neg (by omega)]
      exact ih h2 he
theorem findA_find (L : List Gl.Cluster) (n : Int) (k : Gl.Bs) : Gl.findA n k (L.map Gl.aEnt) = (L.find? (fun c => decide (c.grp = n ∧ c.key = k))).map (·.id) := by
  induction L with
  | nil => rfl
  | cons a r ih =>
    show Gl.findA n k ((a.grp, a.key, a.id) :: r.map Gl.aEnt) = _
    unfold Gl.findA
    rw [List.find?_cons]
    by_cases q : n = a.grp ∧ k = a.key
    · rw [if_pos q, show decide (a.grp = n ∧ a.key = k) = true by simp [q.1, q.2]]
      rfl
    · rw [if_neg q, show decide (a.grp = n ∧ a.key = k) = false by simp only [decide_eq_false_iff_not]; exact fun h => q ⟨h.1.symm, h.2.symm⟩]
      exact ih
theorem lookC_find (L : List Gl.Cluster) (i : Int) : Gl.lookC (L.map Gl.cEnt) i = L.find? (fun c => decide (c.id = i)) := by
  induction L with
  | nil => rfl
  | cons a r ih =>
    show Gl.lookC ((a.id, a) :: r.map Gl.cEnt) i = _
    unfold Gl.lookC
    rw [List.find?_cons]
    by_cases q : i = a.id
    · rw [if_pos q, show decide (a.id = i) = true by simp [q]]
    · rw [if_neg q, show decide (a.id = i) = false by simp only [decide_eq_false_iff_not]; exact fun h => q h.symm]
      exact ih
theorem find_id {L : List Gl.Cluster} (h : L.Pairwise (fun a b => a.id < b.id)) {c : Gl.Cluster} (hc : c ∈ L) : L.find? (fun x => decide (x.id = c.id)) = some c := by
  induction L with
  | nil => simp at hc
  | cons a r ih =>
    obtain ⟨h1, h2⟩ := List.pairwise_cons.1 h
    rw [List.find?_cons]
    rcases List.mem_cons.1 hc with rfl | hc
    · simp
    · have := h1 c hc
      rw [show decide (a.id = c.id) = false by simp only [decide_eq_false_iff_not]; omega]
      exact ih h2 hc
namespace Gl
def Gs.new (most : Int) : Gs := ⟨most, 0, 0, [], []⟩
theorem Gs.Ok.new {most : Int} (h1 : 1 ≤ most) (h2 : most ≤ 200) : (Gs.new most).Ok 0 := by
  refine ⟨List.Pairwise.nil, by simp [Gs.new], List.Pairwise.nil, by simp [Gs.new], by simp [Gs.new], List.Pairwise.nil, h1, h2, ?_, ?_, Int.le_refl _, Int.le_refl _, Int.le_refl _, Int.le_refl _⟩
  · show ((0 : Nat) : Int) ≤ most; omega
  · show ((0 : Nat) : Int) ≤ 4 * most; omega
theorem Gs.Ok.more {s : Gs} {k k' : Int} (h : s.Ok k) (hk : k ≤ k') : s.Ok k' := ⟨h.g, h.gl, h.c, h.cl, h.iso, h.pl, h.m1, h.m2, h.gm, h.cm, h.lg0, Int.le_trans h.lgk hk, h.ln0, Int.le_trans h.lnk hk⟩
theorem Gs.Ok.openG {s : Gs} {k : Int} (h : s.Ok k) (b : Bool) : (s.openG b).1.Ok (k + 1) := by
  unfold Gs.openG
  split
  · exact h.more (by omega)
  · rename_i q
    refine ⟨?_, ?_, h.c, h.cl, ?_, h.pl, h.m1, h.m2, ?_, h.cm, ?_, ?_, h.ln0, ?_⟩
    · show (s.G ++ [(s.lg + 1, b)]).Pairwise _
      refine List.pairwise_append.2 ⟨h.g, List.pairwise_singleton _ _, fun x hx y hy => ?_⟩
      simp only [List.mem_singleton] at hy
      subst hy
      have := h.gl x hx
      simp only
      omega
    · intro e he
      rcases List.mem_append.1 he with he | he
      · have := h.gl e he
        exact ⟨this.1, by show e.1 ≤ s.lg + 1; omega⟩
      · simp only [List.mem_singleton] at he
        subst he
        have := h.lg0
        exact ⟨by show 1 ≤ s.lg + 1; omega, Int.le_refl _⟩
    · intro c hc
      exact lookB_append _ _ _ (h.iso c hc)
    · show ((s.G ++ [(s.lg + 1, b)]).length : Int) ≤ s.most
      rw [List.length_append]
      simp only [List.length_cons, List.length_nil]
      omega
    · have := h.lg0; show 0 ≤ s.lg + 1; omega
    · have := h.lgk; show s.lg + 1 ≤ k + 1; omega
    · have := h.lnk; show s.ln ≤ k + 1; omega
theorem Gs.Ok.dropG {s : Gs} {k : Int} (h : s.Ok k) (n : Int) : (s.dropG n).1.Ok k := by
  unfold Gs.dropG
  split
  · exact h
  · have hl1 : (s.G.filter (fun e => decide (e.1 ≠ n))).length ≤ s.G.length := List.length_filter_le _ _
    have hl2 : (s.L.filter (fun c => decide (c.grp ≠ n))).length ≤ s.L.length := List.length_filter_le _ _
    have hg := h.gm
    have hc := h.cm
    refine ⟨h.g.filter _, fun e he => h.gl e (List.mem_filter.1 he).1, h.c.filter _, fun c hc => h.cl c (List.mem_filter.1 hc).1, fun c hc => ?_, h.pl.filter _, h.m1, h.m2, ?_, ?_, h.lg0, h.lgk, h.ln0, h.lnk⟩
    · obtain ⟨h1, h2⟩ := List.mem_filter.1 hc
      simp only [decide_eq_true_eq] at h2
      show lookB (s.G.filter (fun e => decide (e.1 ≠ n))) c.grp = _
      rw [lookB_filter _ _ _ h2]
      exact h.iso c h1
    · show ((s.G.filter (fun e => decide (e.1 ≠ n))).length : Int) ≤ s.most; omega
    · show ((s.L.filter (fun c => decide (c.grp ≠ n))).length : Int) ≤ 4 * s.most; omega
theorem Gs.Ok.cluster {s : Gs} {k : Int} (h : s.Ok k) (n : Int) (o : Origin) (S : List Bs) : (s.cluster n o S).1.Ok (k + 1) := by
  unfold Gs.cluster
  split
  · exact h.more (by omega)
  rename_i iso hi
  split
  · exact h.more (by omega)
  rename_i hf
  split
  · exact h.more (by omega)
  rename_i q
  have hnone : ∀ c ∈ s.L, ¬(c.grp = n ∧ c.key = keyOf o iso S) := fun c hc => by
    have := List.find?_eq_none.1 hf c hc
    simpa using this
  refine ⟨h.g, h.gl, ?_, ?_, ?_, ?_, h.m1, h.m2, h.gm, ?_, h.lg0, ?_, ?_, ?_⟩
  · refine List.pairwise_append.2 ⟨h.c, List.pairwise_singleton _ _, fun x hx y hy => ?_⟩
    simp only [List.mem_singleton] at hy
    subst hy
    have := h.cl x hx
    simp only
    omega
  · intro e he
    rcases List.mem_append.1 he with he | he
    · have := h.cl e he
      exact ⟨this.1, by show e.id ≤ s.ln + 1; omega⟩
    · simp only [List.mem_singleton] at he
      subst he
      have := h.ln0
      exact ⟨by show 1 ≤ s.ln + 1; omega, Int.le_refl _⟩
  · intro c hc
    rcases List.mem_append.1 hc with hc | hc
    · exact h.iso c hc
    · simp only [List.mem_singleton] at hc
      subst hc
      exact hi
  · refine List.pairwise_append.2 ⟨h.pl, List.pairwise_singleton _ _, fun x hx y hy => ?_⟩
    simp only [List.mem_singleton] at hy
    subst hy
    exact hnone x hx
  · show ((s.L ++ [_]).length : Int) ≤ 4 * s.most
    rw [List.length_append]
    simp only [List.length_cons, List.length_nil]
    omega
  · have := h.lgk; show s.lg ≤ k + 1; omega
  · have := h.ln0; show 0 ≤ s.ln + 1; omega
  · have := h.lnk; show s.ln + 1 ≤ k + 1; omega
end Gl
end Go.Proofs.YtbafofldgkigmaaGreatDoor
