/- The ways through a turn. No program in sight. -/
import Derived.Test.YtagfdgdoboncfaaChainFns
namespace Go.Proofs.Ytagfdgdoboncfaa
theorem hist_32 {site to : Int} {l : List Tag} {n : Nat} (hl : l.length = n) (hh : histB site l to = true) : 1 ≤ n ∧ n ≤ 32 := by
  rw [histB, Bool.and_eq_true, Bool.and_eq_true] at hh
  have := rightB_len hh.1.2; rw [hl] at this; exact this

theorem force_ways {phase site to : Int} {l : List Tag} (hh : histB site l to = true) :
    (phase = 2 ∧ forceTags phase site l to = ([], 10)) ∨ (phase = 4 ∧ forceTags phase site l to = ([], 12)) ∨
        ((phase == 2) = false ∧ (phase == 4) = false ∧ (phase != 3) = true ∧ (phase != 5) = true ∧ forceTags phase site l to = ([], 9)) ∨
        ((phase == 2) = false ∧ (phase == 4) = false ∧ (phase != 3) = true ∧ (phase != 5) = false ∧ forceTags phase site l to = turnTags site l site 0 to) ∨
        ((phase == 2) = false ∧ (phase == 4) = false ∧ (phase != 3) = false ∧ forceTags phase site l to = turnTags site l site 0 to) := by
  have hne : ¬ histB site l to = false := by rw [hh]; simp
  unfold forceTags
  rw [if_neg hne]
  by_cases h2 : phase = 2
  · left; exact ⟨h2, if_pos h2⟩
  right
  rw [if_neg h2]
  by_cases h4 : phase = 4
  · left; exact ⟨h4, if_pos h4⟩
  right
  rw [if_neg h4]
  by_cases h3 : phase = 3
  · right; right; exact ⟨by simpa using h2, by simpa using h4, by simpa using h3, if_neg (by omega)⟩
  by_cases h5 : phase = 5
  · right; left; exact ⟨by simpa using h2, by simpa using h4, by simpa using h3, by simpa using h5, if_neg (by omega)⟩
  · left; exact ⟨by simpa using h2, by simpa using h4, by simpa using h3, by simpa using h5, if_pos ⟨h3, h5⟩⟩
theorem promote_ways {phase site to : Int} {l : List Tag} {x : Tag} {m : Nat} (hl : l.length = m + 1) (hx : l[m]? = some x) (hh : histB site l to = true) :
    (phase = 2 ∧ promoteTags phase site l to = ([], 10)) ∨ (phase = 4 ∧ promoteTags phase site l to = ([], 12)) ∨
        ((phase == 2) = false ∧ (phase == 4) = false ∧ (phase != 3) = true ∧ promoteTags phase site l to = ([], 9)) ∨
        ((phase == 2) = false ∧ (phase == 4) = false ∧ (phase != 3) = false ∧ (x.own != 0) = true ∧ promoteTags phase site l to = ([], 9)) ∨
        ((phase == 2) = false ∧ (phase == 4) = false ∧ (phase != 3) = false ∧ (x.own != 0) = false ∧ (x.heir != site) = true ∧ promoteTags phase site l to = ([], 9)) ∨
        ((phase == 2) = false ∧ (phase == 4) = false ∧ (phase != 3) = false ∧ (x.own != 0) = false ∧ (x.heir != site) = false ∧ (x.at_ != to) = true ∧ promoteTags phase site l to = ([], 9)) ∨
        ((phase == 2) = false ∧ (phase == 4) = false ∧ (phase != 3) = false ∧ (x.own != 0) = false ∧ (x.heir != site) = false ∧ (x.at_ != to) = false ∧ promoteTags phase site l to = turnTags site l site 0 to) := by
  have hne : ¬ histB site l to = false := by rw [hh]; simp
  have hlast := lastIs_last hl hx (fun t => t.own = 0 ∧ t.heir = site ∧ t.at_ = to)
  unfold promoteTags
  rw [if_neg hne, hlast]
  by_cases h2 : phase = 2
  · left; exact ⟨h2, if_pos h2⟩
  right
  rw [if_neg h2]
  by_cases h4 : phase = 4
  · left; exact ⟨h4, if_pos h4⟩
  right
  rw [if_neg h4]
  have h2' : (phase == 2) = false := by simpa using h2
  have h4' : (phase == 4) = false := by simpa using h4
  by_cases h3 : phase = 3
  · right
    have h3' : (phase != 3) = false := by simpa using h3
    by_cases ho : x.own = 0
    · right
      have ho' : (x.own != 0) = false := by simpa using ho
      by_cases hr : x.heir = site
      · right
        have hr' : (x.heir != site) = false := by simpa using hr
        by_cases ha : x.at_ = to
        · right
          exact ⟨h2', h4', h3', ho', hr', by simpa using ha, if_neg (by simp [h3, ho, hr, ha])⟩
        · left; exact ⟨h2', h4', h3', ho', hr', by simpa using ha, if_pos (by simp [ha])⟩
      · left; exact ⟨h2', h4', h3', ho', by simpa using hr, if_pos (by simp [hr])⟩
    · left; exact ⟨h2', h4', h3', by simpa using ho, if_pos (by simp [ho])⟩
  · left; exact ⟨h2', h4', by simpa using h3, if_pos (Or.inl h3)⟩
end Go.Proofs.Ytagfdgdoboncfaa
