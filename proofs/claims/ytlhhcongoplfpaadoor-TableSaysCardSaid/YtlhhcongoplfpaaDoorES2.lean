/- What functions of this program do, each as a contract that its callers use, and what follows of it in plain numbers.
   By an AI agent. -/
import Derived.Test.YtlhhcongoplfpaaDoorAB
import Derived.Test.YtlhhcongoplfpaaDoorDLO
import Derived.Test.YtlhhcongoplfpaaDoorES1
import Derived.Test.YtlhhcongoplfpaaDoorABM
namespace Go.Proofs.YtlhhcongoplfpaaDoor
open Go Go.Proofs.YtlhhcongoplfpaaDoorAB
set_option linter.unusedSimpArgs false
set_option linter.unusedVariables false

theorem tableSaysA (E O B : Nat → Nat) (hne : ∀ g h : Nat, isE g = true → isE h = true → g ≠ h → (B g, O g) ≠ (B h, O h)) (x0 x y : Int) (a : Option Addr) (n cap f : Nat) (z0 : List (Int × Int)) (ob : AObj) (ha0 : 0 < n → a = some ⟨18, f, none⟩ ∧ ob = .ro f (z0.flatMap pp) ∧ n ≤ z0.length) (o : Option Addr) (l c f1 : Nat) (z : List Int) (b : AObj) (h0 : 0 < l → o = some ⟨19, f1, none⟩ ∧ b = .ro f1 (z.map I64) ∧ l ≤ z.length) : Ctr Tryd.prog 9 5 [.slice a n cap, .slice o l c, I64 x0, I64 x, I64 y] [(0, .ro 0 [(.iface 171 (.pointer (some ⟨E 0, O 0, none⟩)))]), (1, .ro 0 [(.iface 171 (.pointer (some ⟨E 1, O 1, none⟩)))]), (2, .ro 0 [(.iface 171 (.pointer (some ⟨E 2, O 2, none⟩)))]), (3, .ro 0 [(.iface 171 (.pointer (some ⟨E 3, O 3, none⟩)))]), (6, .ro 0 [(.iface 171 (.pointer (some ⟨E 6, O 6, none⟩)))]), (7, .ro 0 [(.iface 171 (.pointer (some ⟨E 7, O 7, none⟩)))]), (8, .ro 0 [(.iface 171 (.pointer (some ⟨E 8, O 8, none⟩)))]), (E 0, .mark (B 0)), (E 1, .mark (B 1)), (E 2, .mark (B 2)), (E 3, .mark (B 3)), (E 6, .mark (B 6)), (E 7, .mark (B 7)), (E 8, .mark (B 8)), (18, ob), (19, b)] (.bool true) [.ro 0 [(.iface 171 (.pointer (some ⟨E 0, O 0, none⟩)))], .ro 0 [(.iface 171 (.pointer (some ⟨E 1, O 1, none⟩)))], .ro 0 [(.iface 171 (.pointer (some ⟨E 2, O 2, none⟩)))], .ro 0 [(.iface 171 (.pointer (some ⟨E 3, O 3, none⟩)))], .ro 0 [(.iface 171 (.pointer (some ⟨E 6, O 6, none⟩)))], .ro 0 [(.iface 171 (.pointer (some ⟨E 7, O 7, none⟩)))], .ro 0 [(.iface 171 (.pointer (some ⟨E 8, O 8, none⟩)))], .mark (B 0), .mark (B 1), .mark (B 2), .mark (B 3), .mark (B 6), .mark (B 7), .mark (B 8), ob, b] := by
  by_cases h1 : (n : Int) > 70
  · exact tableSays_raw E O B x0 x y a n cap f z0 ob ha0 o l c f1 z b h0 h1
  by_cases h2 : (l : Int) > 130
  · exact tableSays_l E O B x0 x y a n cap f z0 ob ha0 o l c f1 z b h0 h1 h2
  obtain ⟨X0, Y0, tb, ha⟩ : ∃ X0 Y0 : Nat → Int, Tb ob f n X0 Y0 ∧ (0 < n → a = some ⟨18, f, none⟩) := by
    by_cases hn : 0 < n
    · obtain ⟨e1, e2, e3⟩ := ha0 hn
      exact ⟨_, _, e2 ▸ tb_pts z0 e3, fun _ => e1⟩
    · obtain rfl : n = 0 := by omega
      exact ⟨fun _ => 0, fun _ => 0, tb_nil _ _ _ _, fun h => absurd h (Nat.lt_irrefl 0)⟩
  rcases chk_ex n X0 Y0 with ⟨c0, hc0⟩ | ⟨g, m, hc0⟩
  · by_cases hl : l < 2
    · exact tableSays_N0 E O B hne x0 x y a n cap f ob tb ha o l c f1 z b h0 (by omega) (by omega) hl c0 hc0
    · exact tableSays_N1 E O B hne x0 x y a n cap f ob tb ha o l c f1 z b h0 (by omega) (by omega) (by omega) c0 hc0
  · by_cases hl : l < 2
    · exact tableSays_A0 E O B hne x0 x y a n cap f ob tb ha o l c f1 z b h0 (by omega) (by omega) hl g m hc0
    · exact tableSays_A1 E O B hne x0 x y a n cap f ob tb ha o l c f1 z b h0 (by omega) (by omega) (by omega) g m hc0
end Go.Proofs.YtlhhcongoplfpaaDoor
