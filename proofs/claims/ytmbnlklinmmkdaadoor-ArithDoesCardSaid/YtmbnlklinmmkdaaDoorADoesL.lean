import Derived.Test.YtmbnlklinmmkdaaDoorADoesS
import Derived.Test.YtmbnlklinmmkdaaDoorADoes1Ok
import Derived.Test.YtmbnlklinmmkdaaDoorADoes1No
import Derived.Test.YtmbnlklinmmkdaaDoorADoes2Ok
import Derived.Test.YtmbnlklinmmkdaaDoorADoes2No
import Derived.Test.YtmbnlklinmmkdaaDoorADoesO
namespace Go.Proofs.YtmbnlklinmmkdaaDoor.One
open Go.RowKit Go.Proofs.YtmbnlklinmmkdaaDoorW.PrintWords Go.Proofs.YtmbnlklinmmkdaaDoorW.PrintLast Go.Proofs.YtmbnlklinmmkdaaDoorW.PrintMore
open Go.Proofs.YtmbnlklinmmkdaaDoor.Ref Go.Proofs.YtmbnlklinmmkdaaDoor.Sem Go.Proofs.YtmbnlklinmmkdaaDoor.Base Go.Proofs.YtmbnlklinmmkdaaDoor.Pure Go.Proofs.YtmbnlklinmmkdaaDoor.Leaf Go.Proofs.YtmbnlklinmmkdaaDoor.Turns Go.Proofs.YtmbnlklinmmkdaaDoor.MatA Go.Proofs.YtmbnlklinmmkdaaDoor.PArithDoes
set_option linter.unusedVariables false
theorem add_add' (a : Addr) (i j : Nat) : (a.add i).add j = a.add (i + j) := by
  unfold Addr.add
  by_cases hi : i = 0 <;> by_cases hj : j = 0 <;> simp [hi, hj, Nat.add_assoc]
theorem r3_eq {p : R3} (h : p.e = 0) : p = ⟨p.k, p.n, 0⟩ := by cases p; cases h; rfl
theorem at_spot {W : World} {a : Addr} (h : ObjAt W a) : ∃ B o, a = ⟨B, o, none⟩ ∧ B < W.heap.size := by
  obtain ⟨k, x, a', n, s, r, f, l, hc⟩ := h
  have h0 := hc 0 _ rfl
  have hb := cell_lt h0
  obtain ⟨b, o, spot⟩ := a
  have hs : spot = none := by simpa [Addr.add] using World.cell?_spot h0
  subst hs
  exact ⟨b, o, rfl, by simpa [Addr.add] using hb⟩
theorem news_of {W : World} {a : Addr} {m : Nat} (h : ∀ i, i < m → ObjAt W (a.add (i * 8))) : ∃ news : List Value, news.length = m * 8 ∧ (∀ j u, news[j]? = some u → W.cell? (a.add j) = some u) ∧ ∀ u ∈ news, u.oneCell' = true := by
  have hc : ∀ q, q < m * 8 → ∃ u, W.cell? (a.add q) = some u ∧ u.oneCell' = true := by
    intro q hq
    obtain ⟨k, x, a', n, s, r, f, l, hc⟩ := h (q / 8) (by omega)
    have hl : q % 8 < (oC k x a' n s r f l).toList.length := by show q % 8 < 8; omega
    have hg := List.getElem?_eq_getElem hl
    refine ⟨_, ?_, one_o k x a' n s r f l _ (List.mem_of_getElem? hg)⟩
    have := hc (q % 8) _ hg
    rw [add_add', show q / 8 * 8 + q % 8 = q by omega] at this
    exact this
  refine ⟨(List.range (m * 8)).map fun q => (W.cell? (a.add q)).getD (.bool false), by simp, fun j u hj => ?_, fun u hu => ?_⟩
  · rw [List.getElem?_map] at hj
    obtain ⟨q, hq, rfl⟩ := Option.map_eq_some_iff.1 hj
    obtain ⟨h1, h2⟩ := List.getElem?_eq_some_iff.1 hq
    simp at h1 h2
    subst h2
    obtain ⟨u, hu, _⟩ := hc j h1
    rw [hu]; rfl
  · obtain ⟨q, hq, rfl⟩ := List.mem_map.1 hu
    obtain ⟨u, hu, h1⟩ := hc q (by simpa using hq)
    rw [hu]; exact h1
theorem does (nm : ByteArray) (v : Value) (W : World) (T : Tab W) (hz : 0 < W.heap.size) (hv : Args W v) :
    Calls Tryd.prog 3 #[.string nm, v] W fun e w' => e = .returned (.bool true) ∧ Below W.heap.size W w' := by
  have hform : ∃ A len c, v = .slice A len c := by
    rcases hv with rfl | ⟨a, len, cap, rfl, _⟩
    · exact ⟨_, _, _, rfl⟩
    · exact ⟨_, _, _, rfl⟩
  have hk : ∃ z b, arith_Known.f 1 nm = some (z, b) ∧ mezzotintlaw08_count.f 1 nm = some z ∧ ((z = 0 ∧ b = false) ∨ (z = 1 ∧ b = true ∧ ∃ u : Un, nm.toList = u.name) ∨ (z = 2 ∧ b = true ∧ ∃ o : Bi, nm.toList = o.name)) := by
    by_cases hU : ∃ u : Un, nm.toList = u.name
    · obtain ⟨u, hu⟩ := hU
      exact ⟨1, true, known_un u hu, count_un u hu, .inr (.inl ⟨rfl, rfl, u, hu⟩)⟩
    · by_cases hB : ∃ o : Bi, nm.toList = o.name
      · obtain ⟨o, ho⟩ := hB
        exact ⟨2, true, known_bi o ho, count_bi o ho, .inr (.inr ⟨rfl, rfl, o, ho⟩)⟩
      · exact ⟨0, false, known_no (fun u hu => hU ⟨u, hu⟩) (fun o ho => hB ⟨o, ho⟩), count_no (fun u hu => hU ⟨u, hu⟩) (fun o ho => hB ⟨o, ho⟩), .inl ⟨rfl, rfl⟩⟩
  obtain ⟨z, b, k1, k2, hz3⟩ := hk
  have h3 : (z = 0 ∧ b = false) ∨ (z = 1 ∧ b = true) ∨ (z = 2 ∧ b = true) := by
    rcases hz3 with h | ⟨h, h', _⟩ | ⟨h, h', _⟩
    · exact .inl h
    · exact .inr (.inl ⟨h, h'⟩)
    · exact .inr (.inr ⟨h, h'⟩)
  cases hs : decide ((nm.size : Int) > 1000) with
  | true =>
    obtain ⟨A, len, c, rfl⟩ := hform
    exact doesLong nm A len c W z b k1 (.inl hs)
  | false =>
    rcases hv with rfl | ⟨a, len, cap, rfl, hc⟩
    · exact doesNil nm W z b k1 k2 h3 hs
    · cases hl : decide ((len : Int) > 100) with
      | true => exact doesLong nm _ len cap W z b k1 (.inr ⟨hs, hl⟩)
      | false =>
        by_cases hne : z = 0 ∨ z ≠ (len : Int)
        · obtain ⟨news, n1, n2, n3⟩ := news_of hc
          exact doesSome nm a len cap news W z b k1 k2 h3 hs hl hne n1 n2 n3
        · rcases hz3 with ⟨rfl, rfl⟩ | ⟨rfl, rfl, u, hu⟩ | ⟨rfl, rfl, o, ho⟩
          · exact absurd (.inl rfl) hne
          · obtain rfl : len = 1 := by omega
            obtain ⟨k, x, a', n, s, r, f, l, h0⟩ := hc 0 (by omega)
            obtain ⟨B, off, rfl, hB⟩ := at_spot (show ObjAt W a from ⟨k, x, a', n, s, r, f, l, by simpa [add_add'] using h0⟩)
            have h0' : ∀ q u, (oC k x a' n s r f l).toList[q]? = some u → W.cell? ((⟨B, off, none⟩ : Addr).add q) = some u := fun q u hq => by have := h0 q u hq; rwa [add_add', Nat.zero_mul, Nat.zero_add] at this
            by_cases he : (F1 u k n).e = 0
            · exact does1Ok u nm hu hs B off cap k x a' n s r f l W T hz hB h0' _ _ (r3_eq he)
            · exact does1No u nm hu hs B off cap k x a' n s r f l W T hz hB h0' _ rfl he
          · obtain rfl : len = 2 := by omega
            obtain ⟨k, x, a', n, s, r, f, l, h0⟩ := hc 0 (by omega)
            obtain ⟨j, y, b', m, t, r2, f2, l2, h1⟩ := hc 1 (by omega)
            obtain ⟨B, off, rfl, hB⟩ := at_spot (show ObjAt W a from ⟨k, x, a', n, s, r, f, l, by simpa [add_add'] using h0⟩)
            have h0' : ∀ q u, (o2C k x a' n s r f l j y b' m t r2 f2 l2).toList[q]? = some u → W.cell? ((⟨B, off, none⟩ : Addr).add q) = some u := by
              intro q u hq
              by_cases h8 : q < 8
              · have := h0 q u (by rw [← hq]; exact (List.getElem?_append_left (l₁ := (oC k x a' n s r f l).toList) (l₂ := (oC j y b' m t r2 f2 l2).toList) h8).symm)
                rwa [add_add', Nat.zero_mul, Nat.zero_add] at this
              · have := h1 (q - 8) u (by rw [← hq]; exact (List.getElem?_append_right (l₁ := (oC k x a' n s r f l).toList) (l₂ := (oC j y b' m t r2 f2 l2).toList) (show 8 ≤ q by omega)).symm)
                rwa [add_add', show 1 * 8 + (q - 8) = q by omega] at this
            by_cases he : (F2 o k n j m).e = 0
            · exact does2Ok o nm ho hs B off cap k x a' n s r f l j y b' m t r2 f2 l2 W T hz hB h0' _ _ (r3_eq he)
            · exact does2No o nm ho hs B off cap k x a' n s r f l j y b' m t r2 f2 l2 W T hz hB h0' _ rfl he
end Go.Proofs.YtmbnlklinmmkdaaDoor.One
