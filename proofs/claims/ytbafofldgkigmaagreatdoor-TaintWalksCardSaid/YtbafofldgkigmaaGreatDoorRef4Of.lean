/- glacisref04.Of. -/
import Derived.Test.YtbafofldgkigmaaGreatDoorFourB
namespace Go.Proofs.YtbafofldgkigmaaGreatDoor
open Go.RowKit
attribute [local irreducible] Calls
set_option maxHeartbeats 4000000 in
set_option maxRecDepth 100000 in
theorem ref4_of (u : Gl.URL) (id : Int) (w : World) (hs : u.rest.length ≤ 4294967280) :
    Calls Tryz.prog 69 #[(Value.agg #[(Value.string ⟨((u).scheme).toArray⟩), (Value.string ⟨(((u).host).name).toArray⟩), (Value.bool ((u).host).v4), (Value.int .u32 (((u).host).addr : Int)), (Value.int .i64 (u).port), (Value.string ⟨((u).path).toArray⟩), (Value.bool (u).hasQuery), (Value.string ⟨((u).query).toArray⟩), (Value.string ⟨((u).rest).toArray⟩)]), .int .i64 id] w (Ret w ((Value.agg #[(Value.bool (Gl.originOf u id).opaq), (Value.int .i64 (Gl.originOf u id).id), (Value.string ⟨((Gl.originOf u id).scheme).toArray⟩), (Value.string ⟨(((Gl.originOf u id).host).name).toArray⟩), (Value.bool ((Gl.originOf u id).host).v4), (Value.int .u32 (((Gl.originOf u id).host).addr : Int)), (Value.int .i64 (Gl.originOf u id).port)]))) := by
  have hR : Gl.originOf u id = Gl.origOf (if (Gl.innerOf u).2 then (Gl.innerOf u).1 else u) id := rfl
  have hin := fun W => ref3_inner u W hs
  generalize Gl.originOf u id = R at *
  generalize Gl.innerOf u = p at *
  obtain ⟨x, b⟩ := p
  simp only at hR hin
  replace hin := Lib.hid hin
  obtain ⟨v, hv⟩ : ∃ v, (if b = true then x else u) = v := ⟨_, rfl⟩
  rw [hv] at hR
  go_enter Tryz.func69, Tryz.ntmps69
  go_upto_region 1 with fail
  generalize hW0 : ((w.alloc (Obj.cells #[(Value.string ⟨((u).scheme).toArray⟩), (Value.string ⟨(((u).host).name).toArray⟩), (Value.bool ((u).host).v4), (Value.int .u32 (((u).host).addr : Int)), (Value.int .i64 (u).port), (Value.string ⟨((u).path).toArray⟩), (Value.bool (u).hasQuery), (Value.string ⟨((u).query).toArray⟩), (Value.string ⟨((u).rest).toArray⟩)] 28)).alloc (Obj.cells #[(.bool false), (.int .i64 0), (.string ⟨#[]⟩), (.string ⟨#[]⟩), (.bool false), (.int .u32 0), (.int .i64 0)] 35)) = W0
  have hw0 : Below w.heap.size w W0 := by rw [← hW0]; (exact bw_)
  have hBU : Blk W0 (w.heap.size) 28 #[(Value.string ⟨((u).scheme).toArray⟩), (Value.string ⟨(((u).host).name).toArray⟩), (Value.bool ((u).host).v4), (Value.int .u32 (((u).host).addr : Int)), (Value.int .i64 (u).port), (Value.string ⟨((u).path).toArray⟩), (Value.bool (u).hasQuery), (Value.string ⟨((u).query).toArray⟩), (Value.string ⟨((u).rest).toArray⟩)] := by rw [← hW0]; exact (Blk.alloc (Blk.new _ _ _) _)
  have hBZ : Blk W0 (w.heap.size + 1) 35 #[(.bool false), (.int .i64 0), (.string ⟨#[]⟩), (.string ⟨#[]⟩), (.bool false), (.int .u32 0), (.int .i64 0)] := by rw [← hW0]; exact (by have := Blk.new (w.alloc (Obj.cells #[(Value.string ⟨((u).scheme).toArray⟩), (Value.string ⟨(((u).host).name).toArray⟩), (Value.bool ((u).host).v4), (Value.int .u32 (((u).host).addr : Int)), (Value.int .i64 (u).port), (Value.string ⟨((u).path).toArray⟩), (Value.bool (u).hasQuery), (Value.string ⟨((u).query).toArray⟩), (Value.string ⟨((u).rest).toArray⟩)] 28)) 35 #[(.bool false), (.int .i64 0), (.string ⟨#[]⟩), (.string ⟨#[]⟩), (.bool false), (.int .u32 0), (.int .i64 0)]; simpa [World.size_alloc] using this)
  have hUl := hBU.lt
  have hUc := hBU.cell
  have hUf := hBU.frozen
  have hZl := hBZ.lt
  have hZc := hBZ.cell
  have hZf := hBZ.frozen
  clear hW0
  go_cut [5, 6] from 9 (fun p y w' => ∃ g, p = .pointer (some ⟨g, 0, none⟩) ∧ y = .bool b ∧ w.heap.size + 2 ≤ g ∧ Below w.heap.size w w' ∧ Blk w' w.heap.size 28 #[(Value.string ⟨((u).scheme).toArray⟩), (Value.string ⟨(((u).host).name).toArray⟩), (Value.bool ((u).host).v4), (Value.int .u32 (((u).host).addr : Int)), (Value.int .i64 (u).port), (Value.string ⟨((u).path).toArray⟩), (Value.bool (u).hasQuery), (Value.string ⟨((u).query).toArray⟩), (Value.string ⟨((u).rest).toArray⟩)] ∧ Blk w' (w.heap.size + 1) 35 #[(.bool false), (.int .i64 0), (.string ⟨#[]⟩), (.string ⟨#[]⟩), (.bool false), (.int .u32 0), (.int .i64 0)] ∧ Blk w' g 28 #[(Value.string ⟨((x).scheme).toArray⟩), (Value.string ⟨(((x).host).name).toArray⟩), (Value.bool ((x).host).v4), (Value.int .u32 (((x).host).addr : Int)), (Value.int .i64 (x).port), (Value.string ⟨((x).path).toArray⟩), (Value.bool (x).hasQuery), (Value.string ⟨((x).query).toArray⟩), (Value.string ⟨((x).rest).toArray⟩)])
  case first =>
    go_wp2_with (go_at_call 96; refine (hin.out _).mono ?_; rintro e w1 ⟨rfl, hb⟩; obtain ⟨hc, hfz⟩ := bcell hb; have hz := hb.size; (try simp at hz); (try have hz0 := lt_ hb w.heap.size); (try have hz1 := lt_ hb (w.heap.size + 1)); (try have hz2 := lt_ hb (w.heap.size + 2)); (try have hz3 := lt_ hb (w.heap.size + 3)); (try have hcA := fun o => hc w.heap.size o sz_); (try have hcB := fun o => hc (w.heap.size + 1) o sz_); (try (have i := cf_ hb g; obtain ⟨hcGg, hfGg, hzGg⟩ := i)))
    go_meet
    case rel => exact ⟨_, rfl, rfl, by first | omega | (simp; omega), bw_, bk_, bk_, bk_⟩
  case rest =>
    clear hBU hUl hUc hUf hBZ hZl hZc hZf hw0
    obtain ⟨g, rfl, rfl, hg, hw, hBU, hBZ, hBX⟩ := hcut
    have hUl := hBU.lt
    have hUc := hBU.cell
    have hUf := hBU.frozen
    have hXc := hBX.cell
    go_upto_if 14 with fail
    go_cut [6] from 9 (fun y w' => y = .bool b ∧ Below w.heap.size w w' ∧ Blk w' w.heap.size 28 #[(Value.string ⟨((v).scheme).toArray⟩), (Value.string ⟨(((v).host).name).toArray⟩), (Value.bool ((v).host).v4), (Value.int .u32 (((v).host).addr : Int)), (Value.int .i64 (v).port), (Value.string ⟨((v).path).toArray⟩), (Value.bool (v).hasQuery), (Value.string ⟨((v).query).toArray⟩), (Value.string ⟨((v).rest).toArray⟩)] ∧ Blk w' (w.heap.size + 1) 35 #[(.bool false), (.int .i64 0), (.string ⟨#[]⟩), (.string ⟨#[]⟩), (.bool false), (.int .u32 0), (.int .i64 0)])
    case first =>
      cases b
      · obtain rfl : u = v := hv
        go_wp2_with fail
        go_meet
        exact ⟨rfl, hw, hBU, hBZ⟩
      · obtain rfl : x = v := hv
        go_wp2_with fail
        go_meet
        refine ⟨rfl, ?_, ?_, ?_⟩
        · iterate 9 with_reducible refine Below.setCell ?_ (by exact Nat.le_refl _) _
          exact hw
        · have h0 := hBU
          replace h0 : Blk _ w.heap.size 28 #[(Value.string ⟨(x.scheme).toArray⟩), (Value.string ⟨(u.host.name).toArray⟩), (.bool u.host.v4), (.int .u32 (u.host.addr : Int)), (.int .i64 u.port), (Value.string ⟨(u.path).toArray⟩), (.bool u.hasQuery), (Value.string ⟨(u.query).toArray⟩), (Value.string ⟨(u.rest).toArray⟩)] := h0.set_ 0 (Value.string ⟨(x.scheme).toArray⟩)
          replace h0 : Blk _ w.heap.size 28 #[(Value.string ⟨(x.scheme).toArray⟩), (Value.string ⟨(x.host.name).toArray⟩), (.bool u.host.v4), (.int .u32 (u.host.addr : Int)), (.int .i64 u.port), (Value.string ⟨(u.path).toArray⟩), (.bool u.hasQuery), (Value.string ⟨(u.query).toArray⟩), (Value.string ⟨(u.rest).toArray⟩)] := h0.set_ 1 (Value.string ⟨(x.host.name).toArray⟩)
          replace h0 : Blk _ w.heap.size 28 #[(Value.string ⟨(x.scheme).toArray⟩), (Value.string ⟨(x.host.name).toArray⟩), (.bool x.host.v4), (.int .u32 (u.host.addr : Int)), (.int .i64 u.port), (Value.string ⟨(u.path).toArray⟩), (.bool u.hasQuery), (Value.string ⟨(u.query).toArray⟩), (Value.string ⟨(u.rest).toArray⟩)] := h0.set_ 2 (.bool x.host.v4)
          replace h0 : Blk _ w.heap.size 28 #[(Value.string ⟨(x.scheme).toArray⟩), (Value.string ⟨(x.host.name).toArray⟩), (.bool x.host.v4), (.int .u32 (x.host.addr : Int)), (.int .i64 u.port), (Value.string ⟨(u.path).toArray⟩), (.bool u.hasQuery), (Value.string ⟨(u.query).toArray⟩), (Value.string ⟨(u.rest).toArray⟩)] := h0.set_ 3 (.int .u32 (x.host.addr : Int))
          replace h0 : Blk _ w.heap.size 28 #[(Value.string ⟨(x.scheme).toArray⟩), (Value.string ⟨(x.host.name).toArray⟩), (.bool x.host.v4), (.int .u32 (x.host.addr : Int)), (.int .i64 x.port), (Value.string ⟨(u.path).toArray⟩), (.bool u.hasQuery), (Value.string ⟨(u.query).toArray⟩), (Value.string ⟨(u.rest).toArray⟩)] := h0.set_ 4 (.int .i64 x.port)
          replace h0 : Blk _ w.heap.size 28 #[(Value.string ⟨(x.scheme).toArray⟩), (Value.string ⟨(x.host.name).toArray⟩), (.bool x.host.v4), (.int .u32 (x.host.addr : Int)), (.int .i64 x.port), (Value.string ⟨(x.path).toArray⟩), (.bool u.hasQuery), (Value.string ⟨(u.query).toArray⟩), (Value.string ⟨(u.rest).toArray⟩)] := h0.set_ 5 (Value.string ⟨(x.path).toArray⟩)
          replace h0 : Blk _ w.heap.size 28 #[(Value.string ⟨(x.scheme).toArray⟩), (Value.string ⟨(x.host.name).toArray⟩), (.bool x.host.v4), (.int .u32 (x.host.addr : Int)), (.int .i64 x.port), (Value.string ⟨(x.path).toArray⟩), (.bool x.hasQuery), (Value.string ⟨(u.query).toArray⟩), (Value.string ⟨(u.rest).toArray⟩)] := h0.set_ 6 (.bool x.hasQuery)
          replace h0 : Blk _ w.heap.size 28 #[(Value.string ⟨(x.scheme).toArray⟩), (Value.string ⟨(x.host.name).toArray⟩), (.bool x.host.v4), (.int .u32 (x.host.addr : Int)), (.int .i64 x.port), (Value.string ⟨(x.path).toArray⟩), (.bool x.hasQuery), (Value.string ⟨(x.query).toArray⟩), (Value.string ⟨(u.rest).toArray⟩)] := h0.set_ 7 (Value.string ⟨(x.query).toArray⟩)
          replace h0 : Blk _ w.heap.size 28 #[(Value.string ⟨(x.scheme).toArray⟩), (Value.string ⟨(x.host.name).toArray⟩), (.bool x.host.v4), (.int .u32 (x.host.addr : Int)), (.int .i64 x.port), (Value.string ⟨(x.path).toArray⟩), (.bool x.hasQuery), (Value.string ⟨(x.query).toArray⟩), (Value.string ⟨(x.rest).toArray⟩)] := h0.set_ 8 (Value.string ⟨(x.rest).toArray⟩)
          exact h0
        · iterate 9 with_reducible refine Blk.far ?_ (Nat.succ_ne_self _) _
          exact hBZ
    case rest =>
      clear hw hBU hBZ hUl hUc hUf hXc
      obtain ⟨-, hw, hBU, hBZ⟩ := hcut
      have hUl := hBU.lt
      have hUc := hBU.cell
      have hZl := hBZ.lt
      have hZc := hBZ.cell
      have hZf := hBZ.frozen
      have hnet := fun W => ref3_net v W
      have hown := fun W => (ref3_own v.scheme W).mono (fun _ _ h => h.ret)
      unfold Gl.origOf at hR
      generalize hn : Gl.isNet v = nn at *
      generalize Gl.own v.scheme = po at *
      replace hnet := Lib.hid hnet
      replace hown := Lib.hid hown
      replace hn := Lib.hid hn
      cases nn with
      | false =>
        rw [if_pos rfl] at hR
        have hf := Lib.hid hR
        clear hR
        go_wp2_with (go_at_call 65; refine (hnet.out _).mono ?_; rintro e w1 ⟨rfl, hb⟩; obtain ⟨hc, hfz⟩ := bcell hb; have hz := hb.size; (try simp at hz); (try have hz0 := lt_ hb w.heap.size); (try have hz1 := lt_ hb (w.heap.size + 1)); (try have hz2 := lt_ hb (w.heap.size + 2)); (try have hz3 := lt_ hb (w.heap.size + 3)); (try have hcA := fun o => hc w.heap.size o sz_); (try have hcB := fun o => hc (w.heap.size + 1) o sz_); (try (have i := cf_ hb g; obtain ⟨hcGg, hfGg, hzGg⟩ := i)))
        refine bodyPost_ret (v := (.agg #[.bool true, .int .i64 id, .string ⟨#[]⟩, .string ⟨#[]⟩, .bool false, .int .u32 0, .int .i64 0])) (by simp only [results, Tryz.results69]; go_simp) rfl ⟨by rw [ hf.out] <;> rfl, ?_⟩; (exact bw_)
      | true =>
        rw [if_neg (by simp)] at hR
        by_cases hp : v.port < 0
        · have hf : Hid (R = { scheme := v.scheme, host := v.host, port := po }) := Lib.hid (by rw [hR, if_pos hp])
          clear hR
          go_wp2_with (first | ((first | (go_at_call 65; refine (hnet.out _).mono ?_) | (go_at_call 97; refine (hown.out _).mono ?_)); rintro e w1 ⟨rfl, hb⟩; obtain ⟨hc, hfz⟩ := bcell hb; have hz := hb.size; (try simp at hz); (try have hz0 := lt_ hb w.heap.size); (try have hz1 := lt_ hb (w.heap.size + 1)); (try have hz2 := lt_ hb (w.heap.size + 2)); (try have hz3 := lt_ hb (w.heap.size + 3)); (try have hcA := fun o => hc w.heap.size o sz_); (try have hcB := fun o => hc (w.heap.size + 1) o sz_); (try (have i := cf_ hb g; obtain ⟨hcGg, hfGg, hzGg⟩ := i))))
          refine bodyPost_ret (v := (.agg #[.bool false, .int .i64 0, (Value.string ⟨(v.scheme).toArray⟩), (Value.string ⟨((v.host).name).toArray⟩), (Value.bool (v.host).v4), (Value.int .u32 ((v.host).addr : Int)), .int .i64 po])) (by simp only [results, Tryz.results69]; go_simp) rfl ⟨by rw [hf.out] <;> rfl, ?_⟩
          (exact bw_)
        · have hp2 : 0 ≤ v.port := by omega
          have hf : Hid (R = { scheme := v.scheme, host := v.host, port := v.port }) := Lib.hid (by rw [hR, if_neg hp])
          clear hR hp
          go_wp2_with (go_at_call 65; refine (hnet.out _).mono ?_; rintro e w1 ⟨rfl, hb⟩; obtain ⟨hc, hfz⟩ := bcell hb; have hz := hb.size; (try simp at hz); (try have hz0 := lt_ hb w.heap.size); (try have hz1 := lt_ hb (w.heap.size + 1)); (try have hz2 := lt_ hb (w.heap.size + 2)); (try have hz3 := lt_ hb (w.heap.size + 3)); (try have hcA := fun o => hc w.heap.size o sz_); (try have hcB := fun o => hc (w.heap.size + 1) o sz_); (try (have i := cf_ hb g; obtain ⟨hcGg, hfGg, hzGg⟩ := i)))
          refine bodyPost_ret (v := (.agg #[.bool false, .int .i64 0, (Value.string ⟨(v.scheme).toArray⟩), (Value.string ⟨((v.host).name).toArray⟩), (Value.bool (v.host).v4), (Value.int .u32 ((v.host).addr : Int)), .int .i64 v.port])) (by simp only [results, Tryz.results69]; go_simp) rfl ⟨by rw [hf.out] <;> rfl, ?_⟩
          (exact bw_)
end Go.Proofs.YtbafofldgkigmaaGreatDoor
