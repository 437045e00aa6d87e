/-
  The program's own facts that the abstract machine asks for; what the scanner's closed calls answer.
-/
import Derived.Test.YtpgbdebplodinaaChecked
import Derived.Test.YtpgbdebplodinaaVi2
import Derived.KernelRfl
set_option autoImplicit false
namespace Go.Proofs.Ytpgbdebplodinaa
open Go.VI

theorem mixed : Try.prog.follows .mixedOrders = true := by kernel_rfl
theorem namesAll : (Try.prog.funcs.toList.all fun fn => !(fn.name == "runtime.NumGoroutine")) = true := by kernel_rfl
theorem namesOk : NamesOk Try.prog := by
  intro f fn h
  have h1 : fn ∈ Try.prog.funcs.toList := by
    rw [← Array.getElem?_toList] at h
    exact List.mem_of_getElem? h
  have := List.all_eq_true.1 namesAll fn h1
  simpa using this
def tabSigns : List Row := [
  ⟨52, [], .agg [.str [40], .str [41], .str [91], .str [93], .str [123], .str [125], .str [44], .str [59], .str [58], .str [46], .str [61], .str [61, 61], .str [33, 61], .str [60], .str [60, 61], .str [62], .str [62, 61], .str [43], .str [45], .str [42], .str [47], .str [37], .str [38, 38], .str [124, 124], .str [33], .str [60, 45], .str [60, 45, 61]]⟩,
  ⟨55, [], .agg [.str [97, 114, 114, 97, 121], .str [98, 101, 103, 105, 110], .str [98, 111, 111, 108], .str [99, 97, 115, 101], .str [99, 104, 97, 110], .str [101, 108, 115, 101], .str [102, 97, 108, 115, 101], .str [102, 105, 108, 108], .str [105, 102], .str [105, 110, 116], .str [108, 101, 110], .str [109, 97, 107, 101], .str [111, 102], .str [112, 114, 111, 103], .str [114, 101, 116, 117, 114, 110], .str [115, 101, 108, 101, 99, 116], .str [116, 114, 117, 101], .str [116, 121, 112, 101], .str [118, 97, 108], .str [118, 97, 114], .str [119, 104, 105, 108, 101]]⟩]
def tabTexts : List Row := [
  ⟨53, [.int .i64 (0)], .str []⟩,
  ⟨53, [.int .i64 (1)], .str []⟩,
  ⟨53, [.int .i64 (2)], .str []⟩,
  ⟨53, [.int .i64 (3)], .str []⟩,
  ⟨53, [.int .i64 (4)], .str []⟩,
  ⟨53, [.int .i64 (5)], .str []⟩,
  ⟨53, [.int .i64 (6)], .str []⟩,
  ⟨53, [.int .i64 (7)], .str []⟩,
  ⟨53, [.int .i64 (8)], .str []⟩,
  ⟨53, [.int .i64 (9)], .str []⟩,
  ⟨53, [.int .i64 (10)], .str [97, 114, 114, 97, 121]⟩,
  ⟨53, [.int .i64 (11)], .str [98, 101, 103, 105, 110]⟩,
  ⟨53, [.int .i64 (12)], .str [98, 111, 111, 108]⟩,
  ⟨53, [.int .i64 (13)], .str [99, 97, 115, 101]⟩,
  ⟨53, [.int .i64 (14)], .str [99, 104, 97, 110]⟩,
  ⟨53, [.int .i64 (15)], .str [101, 108, 115, 101]⟩,
  ⟨53, [.int .i64 (16)], .str [102, 97, 108, 115, 101]⟩,
  ⟨53, [.int .i64 (17)], .str [102, 105, 108, 108]⟩,
  ⟨53, [.int .i64 (18)], .str [105, 102]⟩,
  ⟨53, [.int .i64 (19)], .str [105, 110, 116]⟩,
  ⟨53, [.int .i64 (20)], .str [108, 101, 110]⟩,
  ⟨53, [.int .i64 (21)], .str [109, 97, 107, 101]⟩,
  ⟨53, [.int .i64 (22)], .str [111, 102]⟩,
  ⟨53, [.int .i64 (23)], .str [112, 114, 111, 103]⟩,
  ⟨53, [.int .i64 (24)], .str [114, 101, 116, 117, 114, 110]⟩,
  ⟨53, [.int .i64 (25)], .str [115, 101, 108, 101, 99, 116]⟩,
  ⟨53, [.int .i64 (26)], .str [116, 114, 117, 101]⟩,
  ⟨53, [.int .i64 (27)], .str [116, 121, 112, 101]⟩,
  ⟨53, [.int .i64 (28)], .str [118, 97, 108]⟩,
  ⟨53, [.int .i64 (29)], .str [118, 97, 114]⟩,
  ⟨53, [.int .i64 (30)], .str [119, 104, 105, 108, 101]⟩,
  ⟨53, [.int .i64 (31)], .str []⟩,
  ⟨53, [.int .i64 (32)], .str []⟩,
  ⟨53, [.int .i64 (33)], .str []⟩,
  ⟨53, [.int .i64 (34)], .str []⟩,
  ⟨53, [.int .i64 (35)], .str []⟩,
  ⟨53, [.int .i64 (36)], .str []⟩,
  ⟨53, [.int .i64 (37)], .str []⟩,
  ⟨53, [.int .i64 (38)], .str []⟩,
  ⟨53, [.int .i64 (39)], .str []⟩,
  ⟨53, [.int .i64 (40)], .str [40]⟩,
  ⟨53, [.int .i64 (41)], .str [41]⟩,
  ⟨53, [.int .i64 (42)], .str [91]⟩,
  ⟨53, [.int .i64 (43)], .str [93]⟩,
  ⟨53, [.int .i64 (44)], .str [123]⟩,
  ⟨53, [.int .i64 (45)], .str [125]⟩,
  ⟨53, [.int .i64 (46)], .str [44]⟩,
  ⟨53, [.int .i64 (47)], .str [59]⟩,
  ⟨53, [.int .i64 (48)], .str [58]⟩,
  ⟨53, [.int .i64 (49)], .str [46]⟩,
  ⟨53, [.int .i64 (50)], .str [61]⟩,
  ⟨53, [.int .i64 (51)], .str [61, 61]⟩,
  ⟨53, [.int .i64 (52)], .str [33, 61]⟩,
  ⟨53, [.int .i64 (53)], .str [60]⟩,
  ⟨53, [.int .i64 (54)], .str [60, 61]⟩,
  ⟨53, [.int .i64 (55)], .str [62]⟩,
  ⟨53, [.int .i64 (56)], .str [62, 61]⟩,
  ⟨53, [.int .i64 (57)], .str [43]⟩,
  ⟨53, [.int .i64 (58)], .str [45]⟩,
  ⟨53, [.int .i64 (59)], .str [42]⟩,
  ⟨53, [.int .i64 (60)], .str [47]⟩,
  ⟨53, [.int .i64 (61)], .str [37]⟩,
  ⟨53, [.int .i64 (62)], .str [38, 38]⟩,
  ⟨53, [.int .i64 (63)], .str [124, 124]⟩,
  ⟨53, [.int .i64 (64)], .str [33]⟩,
  ⟨53, [.int .i64 (65)], .str [60, 45]⟩,
  ⟨53, [.int .i64 (66)], .str [60, 45, 61]⟩]
def tabKindRows : List Row := [
  ⟨44, [.str [120]], .int .i64 (0)⟩,
  ⟨44, [.str [105, 110, 112, 117, 116]], .int .i64 (0)⟩]
theorem signsOk : TableOk Try.prog tabSigns := table_of mixed namesOk (fun _ => noOrc_sound) (n := 100) (by kernel_rfl)
theorem textsOk : TableOk Try.prog tabTexts := table_of mixed namesOk (fun _ => table_sound signsOk) (n := 100) (by kernel_rfl)
theorem kindRowsOk : TableOk Try.prog tabKindRows := table_of mixed namesOk (fun _ => table_sound (signsOk.append textsOk)) (n := 100) (by kernel_rfl)
def tabKinds : List Row := tabKindRows
theorem kindsOk : TableOk Try.prog tabKinds := kindRowsOk
end Go.Proofs.Ytpgbdebplodinaa
