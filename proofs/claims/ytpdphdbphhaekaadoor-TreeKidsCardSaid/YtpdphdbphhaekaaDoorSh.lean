import Derived.Test.YtpdphdbphhaekaaDoorTa
import Derived.Test.YtpdphdbphhaekaaDoorLay
set_option autoImplicit false
namespace Go.Proofs.YtpdphdbphhaekaaDoor
open Go.VI Go.RowKit Go.Shelf

theorem joinOk : JoinOk Tryd.prog 22 Lib.join := fun bk o c xs sep w h1 h2 h3 h4 h5 => Any.strings_Join lays156 extra bk o c xs sep w h1 h2 h3 h4 h5
theorem joinEnters : Go.VI.Enters Tryd.prog 22 := ⟨_, Tryd.func22, by kernel_rfl, by kernel_rfl⟩
theorem itoaEnters : Go.VI.Enters Tryd.prog 51 := ⟨_, Tryd.func51, by kernel_rfl, by kernel_rfl⟩
def itoaL (n : Int) : List UInt8 := Lib.decDigits n.toNat
theorem itoaOk : ItoaOk Tryd.prog 51 itoaL := fun i w h => (Any.strconv_Itoa_small lays171 i h w).mono fun e w' ⟨h1, h2⟩ => ⟨by simpa [itoaL] using h1, by rw [h2]; exact Below.refl _ _⟩
def orc : CallF := bothA (joinA 22 Lib.join) (itoaA 51 itoaL)
theorem orcSound (w0 : World) : CallSound Tryd.prog w0 orc := bothA_sound (joinA_sound joinEnters joinOk) (itoaA_sound itoaEnters itoaOk)
set_option maxRecDepth 100000 in
theorem shownTells : tells (acall Tryd.prog orc 200 8 [] AH.empty) = true := by kernel_rfl
theorem shownCalls (w : World) : Calls Tryd.prog 8 #[] w fun e w' => e = .returned (.bool true) ∧ Below w.heap.size w w' := law0o mixed namesOk orcSound shownTells w

end Go.Proofs.YtpdphdbphhaekaaDoor
