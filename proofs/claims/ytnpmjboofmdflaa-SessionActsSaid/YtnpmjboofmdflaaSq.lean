/- Short words for printed walks: what holds of a world holds behind what is laid and drawn behind it. -/
import Derived.Test.YtnpmjboofmdflaaCb
import Derived.Test.YtnpmjboofmdflaaWMore
namespace Go.Proofs.Ytnpmjboofmdflaa
open Go.RowKit Go.Proofs.YtnpmjboofmdflaaW.PrintWords Go.Proofs.YtnpmjboofmdflaaW.PrintLast Go.Proofs.YtnpmjboofmdflaaW.PrintMore
def Rc (w W : World) : Prop := ∀ p : World → Prop, (∀ V o, p V → p (V.alloc o)) → (∀ V, p V → p V.drew) → (∀ V n, p V → p (V.drewN n)) → p w → p W
instance rc0 (w : World) : Nonempty (Rc w w) := ⟨fun _ _ _ _ h => h⟩
instance rc1 {w W : World} (o : Obj) [h : Nonempty (Rc w W)] : Nonempty (Rc w (W.alloc o)) := h.elim fun h => ⟨fun p a b c x => a _ _ (h p a b c x)⟩
instance rc2 {w W : World} [h : Nonempty (Rc w W)] : Nonempty (Rc w W.drew) := h.elim fun h => ⟨fun p a b c x => b _ (h p a b c x)⟩
instance rc3 {w W : World} (n : Nat) [h : Nonempty (Rc w W)] : Nonempty (Rc w (W.drewN n)) := h.elim fun h => ⟨fun p a b c x => c _ _ (h p a b c x)⟩
theorem pk {w W : World} {g : Nat} {o : Obj} [h : Nonempty (Rc w W)] (x : w.heap[g]? = some o) : W.heap[g]? = some o := h.elim fun h => h (fun V => V.heap[g]? = some o) (fun _ o h => blk_alloc h o) (fun _ h => blk_drew h) (fun _ n h => blk_drewN h n) x
section
variable {α : Type} {d : Kd α} {e base : Nat} {ok : Nat → Prop} {w W : World} {v : Value} {xs : List α}
theorem pV [h : Nonempty (Rc w W)] (x : Kd.V d e w base ok v xs) : Kd.V d e W base ok v xs := h.elim fun h => h (fun V => Kd.V d e V base ok v xs) (fun _ o h => Kd.V_alloc h o) (fun _ h => Kd.V_drew h) (fun _ n h => Kd.V_drewN h n) x
theorem pR [h : Nonempty (Rc w W)] (x : Kd.R d e w base ok v xs) : Kd.R d e W base ok v xs := h.elim fun h => h (fun V => Kd.R d e V base ok v xs) (fun _ o h => Kd.R_alloc h o) (fun _ h => Kd.R_drew h) (fun _ n h => Kd.R_drewN h n) x
end
theorem pB {a w W : World} [h : Nonempty (Rc w W)] (x : Below a.heap.size a w) : Below a.heap.size a W := h.elim fun h => h (fun V => Below a.heap.size a V) (fun _ o h => below_alloc h o) (fun _ h => below_drew1 h) (fun _ n h => pw_below_drewN h n) x
theorem ak {p : Prop} (h : p) : Aside0 p := ⟨h⟩
theorem bs {w W : World} {g j : Nat} {v : Value} (h : Below w.heap.size w W) (hg : w.heap.size ≤ g) : Below w.heap.size w (W.setCell ⟨g, j, none⟩ v) := below_set h hg
end Go.Proofs.Ytnpmjboofmdflaa
