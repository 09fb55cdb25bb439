/- The contracts of layer 3, in one place. -/
import Derived.Test.YtplbkocokknnoaaDoorUrlParse
import Derived.Test.YtplbkocokknnoaaDoorThree
import Derived.Test.YtplbkocokknnoaaDoorOne
import Derived.Test.YtplbkocokknnoaaDoorText
namespace Go.Proofs.YtplbkocokknnoaaDoor
open Go.RowKit
attribute [local irreducible] Calls

theorem urlp_parse (s : List UInt8) (w : World) (hs : s.length ≤ 4294967280) (hE : Env w) :
    Calls Tryd.prog 6 #[(Value.string ⟨(s).toArray⟩)] w (Ret w (.tuple #[(Value.agg #[(Value.string ⟨(((Gl.parse s).1).scheme).toArray⟩), (Value.string ⟨((((Gl.parse s).1).host).name).toArray⟩), (Value.bool (((Gl.parse s).1).host).v4), (Value.int .u32 ((((Gl.parse s).1).host).addr : Int)), (Value.int .i64 ((Gl.parse s).1).port), (Value.string ⟨(((Gl.parse s).1).path).toArray⟩), (Value.bool ((Gl.parse s).1).hasQuery), (Value.string ⟨(((Gl.parse s).1).query).toArray⟩), (Value.string ⟨(((Gl.parse s).1).rest).toArray⟩)]), .int .i64 (Gl.parse s).2])) := urlp_parse_n (s.length + 1) s w hs (Nat.lt_succ_self _) hE
theorem urlp_inner (u : Gl.URL) (w : World) (hs : u.rest.length ≤ 4294967280) (hE : Env w) :
    Calls Tryd.prog 26 #[(Value.agg #[(Value.string ⟨((u).scheme).toArray⟩), (Value.string ⟨(((u).host).name).toArray⟩), (Value.bool ((u).host).v4), (Value.int .u32 (((u).host).addr : Int)), (Value.int .i64 (u).port), (Value.string ⟨((u).path).toArray⟩), (Value.bool (u).hasQuery), (Value.string ⟨((u).query).toArray⟩), (Value.string ⟨((u).rest).toArray⟩)])] w (Ret w (.tuple #[(Value.agg #[(Value.string ⟨(((Gl.innerOf u).1).scheme).toArray⟩), (Value.string ⟨((((Gl.innerOf u).1).host).name).toArray⟩), (Value.bool (((Gl.innerOf u).1).host).v4), (Value.int .u32 ((((Gl.innerOf u).1).host).addr : Int)), (Value.int .i64 ((Gl.innerOf u).1).port), (Value.string ⟨(((Gl.innerOf u).1).path).toArray⟩), (Value.bool ((Gl.innerOf u).1).hasQuery), (Value.string ⟨(((Gl.innerOf u).1).query).toArray⟩), (Value.string ⟨(((Gl.innerOf u).1).rest).toArray⟩)]), .bool (Gl.innerOf u).2])) := urlp_inner_of u w (fun W hW => urlp_parse u.rest W hs (hE.below hW))
end Go.Proofs.YtplbkocokknnoaaDoor
