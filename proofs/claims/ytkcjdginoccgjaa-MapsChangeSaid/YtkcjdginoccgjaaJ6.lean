/- Contracts and laws that the claim's row leans on (8 texts, joined): A map's proofs, plain: what is beside a key's way, its marks, and the root behind a change; condition: the keys' lengths. What Changed says with a map's own proof, plain; condition: the keys' lengths. Map.Prove; conditions: at most 1000 entries. slices.DeleteFunc at entries, by a key; conditions: the row's block is known. MapsMatch is true; conditions: the slice of steps lies in memory. MapsChange is true; conditions: the slice of steps lies in memory. Readings of slices of rows of 32 octets, and of a struct of two ints and such a slice, are opened; no condition. A reading of a slice of steps (three ints each) is opened; no condition. -/
import Derived.Test.YtkcjdginoccgjaaJ5
import Derived.Deep.Strs
namespace Go.Proofs.Ytkcjdginoccgjaa
section
open Go Go.RowKit

/-- the keys that agree with k below a level -/
def agr (k : List UInt8) (ks : List (List UInt8)) : Nat → List (List UInt8)
  | 0 => ks
  | l + 1 => sideE l (bitL k l) (agr k ks l)
def oth (k : List UInt8) (ks : List (List UInt8)) (l : Nat) : List (List UInt8) := sideE l (1 - bitL k l) (agr k ks l)
theorem agr_mem {k : List UInt8} {ks : List (List UInt8)} : ∀ {l : Nat} {x : List UInt8}, x ∈ agr k ks l ↔ x ∈ ks ∧ ∀ j, j < l → bitL x j = bitL k j
  | 0, x => by simp [agr]
  | l + 1, x => by
    unfold agr sideE
    rw [List.mem_filter, agr_mem (l := l)]
    constructor
    · rintro ⟨⟨h1, h2⟩, h3⟩
      refine ⟨h1, fun j hj => ?_⟩
      rcases Nat.lt_or_ge j l with h | h
      · exact h2 j h
      · obtain rfl : j = l := by omega
        simpa using h3
    · rintro ⟨h1, h2⟩
      exact ⟨⟨h1, fun j hj => h2 j (by omega)⟩, by simpa using h2 l (by omega)⟩
theorem agr_sub (k : List UInt8) (ks : List (List UInt8)) : ∀ l, (agr k ks l).Sublist ks
  | 0 => List.Sublist.refl _
  | l + 1 => List.Sublist.trans List.filter_sublist (agr_sub k ks l)
theorem agr_pre (k : List UInt8) (ks : List (List UInt8)) (l : Nat) : Pre l (agr k ks l) := fun x hx y hy j hj => by
  rw [(agr_mem.1 hx).2 j hj, (agr_mem.1 hy).2 j hj]
theorem agr_app (k : List UInt8) (ks : List (List UInt8)) : ∀ l, agr k (ks ++ [k]) l = agr k ks l ++ [k]
  | 0 => rfl
  | l + 1 => by
    unfold agr sideE
    rw [agr_app k ks l, List.filter_append]
    simp
theorem oth_app (k : List UInt8) (ks : List (List UInt8)) (l : Nat) : oth k (ks ++ [k]) l = oth k ks l := by
  unfold oth sideE
  rw [agr_app, List.filter_append]
  have hb := bitL_lt k l
  have : [k].filter (fun x => bitL x l == 1 - bitL k l) = [] := by
    simp; omega
  rw [this, List.append_nil]
theorem oth_ne {k : List UInt8} {ks : List (List UInt8)} {l : Nat} {x : List UInt8} (h : x ∈ oth k ks l) : x ≠ k := by
  intro he
  have := (List.mem_filter.1 h).2
  rw [he] at this
  have hb := bitL_lt k l
  simp at this
  omega
theorem oth_mem {k : List UInt8} {ks : List (List UInt8)} {l : Nat} {x : List UInt8} (h : x ∈ oth k ks l) : x ∈ ks := (agr_mem.1 (List.mem_filter.1 h).1).1

theorem partK_nil (hs : List Ent) (f l : Nat) : partK hs f l [] = zero32 := mapRootL_le f l (by simp)
theorem partK_congr {hs hs' : List Ent} {f l : Nat} {ks : List (List UInt8)} (h : ∀ x ∈ ks, getK hs x = getK hs' x) : partK hs f l ks = partK hs' f l ks := by
  unfold partK
  rw [List.map_congr_left (fun x hx => show entK hs x = entK hs' x by unfold entK; rw [h x hx])]
theorem partK_two {hs : List Ent} {l : Nat} {ks : List (List UInt8)} (h32 : All32 ks) (hl : l < 256) (h : 1 < ks.length) (k : List UInt8) :
    partK hs (256 - l) l ks = sideL k l (partK hs (255 - l) (l + 1) (sideE l (bitL k l) ks)) (partK hs (255 - l) (l + 1) (sideE l (1 - bitL k l) ks)) := by
  unfold partK
  rw [show 256 - l = 255 - l + 1 by omega, mapRootL_two _ _ (by rw [List.length_map]; exact h), side_ent hl h32, side_ent hl h32]
  have hb := bitL_lt k l
  unfold sideL
  rcases (by omega : bitL k l = 0 ∨ bitL k l = 1) with h0 | h1
  · rw [h0]; rfl
  · rw [h1]; rfl

/-- what stands beside, on the way down to a level -/
def pathK (hs : List Ent) (k : List UInt8) (ks : List (List UInt8)) : Nat → List (List UInt8)
  | 0 => []
  | l + 1 => pathK hs k ks l ++ if (oth k ks l).isEmpty then [] else [partK hs (255 - l) (l + 1) (oth k ks l)]
/-- the marks below a level -/
def Marks (k : List UInt8) (ks : List (List UInt8)) (lv : List UInt8) (l : Nat) : Prop := ∀ i, i < 256 → bitL lv i = if i < l ∧ (oth k ks i).isEmpty = false then 1 else 0
theorem path_len {hs : List Ent} {k lv : List UInt8} {ks : List (List UInt8)} {D : Nat} (hm : Marks k ks lv D) (hD : D ≤ 256) : ∀ l, l ≤ D → (pathK hs k ks l).length = cntL lv l
  | 0, _ => rfl
  | l + 1, h => by
    have ih := path_len (hs := hs) hm hD l (by omega)
    have hb := hm l (by omega)
    show (pathK hs k ks l ++ (if (oth k ks l).isEmpty then [] else [partK hs (255 - l) (l + 1) (oth k ks l)])).length = cntL lv l + bitL lv l
    rw [List.length_append, ih]
    cases he : (oth k ks l).isEmpty with
    | true =>
      have hb0 : bitL lv l = 0 := by rw [hb, if_neg (fun h => by rw [he] at h; cases h.2)]
      rw [hb0]; simp
    | false =>
      have hb1 : bitL lv l = 1 := by rw [hb, if_pos ⟨by omega, he⟩]
      rw [hb1]; simp
theorem path_pre (hs : List Ent) (k : List UInt8) (ks : List (List UInt8)) (l : Nat) : ∀ m, ∃ t, pathK hs k ks (l + m) = pathK hs k ks l ++ t
  | 0 => ⟨[], by simp⟩
  | m + 1 => by
    obtain ⟨t, ht⟩ := path_pre hs k ks l m
    refine ⟨t ++ if (oth k ks (l + m)).isEmpty then [] else [partK hs (255 - (l + m)) (l + m + 1) (oth k ks (l + m))], ?_⟩
    show pathK hs k ks (l + m) ++ _ = _
    rw [ht, List.append_assoc]
    rfl
theorem path_at {hs : List Ent} {k lv : List UInt8} {ks : List (List UInt8)} {D : Nat} (hm : Marks k ks lv D) (hD : D ≤ 256) (ex : List (List UInt8)) {i : Nat} (hi : i < D) :
    (if bitL lv i = 1 then (pathK hs k ks D ++ ex)[cntL lv i]?.getD zero32 else zero32) = partK hs (255 - i) (i + 1) (oth k ks i) := by
  have hb := hm i (by omega)
  cases he : (oth k ks i).isEmpty with
  | true =>
    have hb0 : bitL lv i = 0 := by rw [hb, if_neg (fun h => by rw [he] at h; cases h.2)]
    rw [hb0, if_neg (by decide), List.isEmpty_iff.1 he, partK_nil]
  | false =>
    have hb1 : bitL lv i = 1 := by rw [hb, if_pos ⟨hi, he⟩]
    rw [if_pos hb1]
    obtain ⟨t, ht⟩ := path_pre hs k ks (i + 1) (D - (i + 1))
    rw [show i + 1 + (D - (i + 1)) = D by omega] at ht
    rw [ht]
    have hp : pathK hs k ks (i + 1) = pathK hs k ks i ++ [partK hs (255 - i) (i + 1) (oth k ks i)] := by
      show pathK hs k ks i ++ (if (oth k ks i).isEmpty then [] else [partK hs (255 - i) (i + 1) (oth k ks i)]) = _
      rw [he]; rfl
    have hlen := path_len (hs := hs) hm hD i (by omega)
    rw [hp, List.append_assoc, List.append_assoc, List.getElem?_append_right (by omega), hlen, Nat.sub_self]
    rfl
theorem up_root {hs : List Ent} {k lv : List UInt8} {ks ls : List (List UInt8)} {D F : Nat} (hF : F = 256) (h32 : All32 ks) (hD : D ≤ F) (hlen : ∀ i, i < D → 1 < (agr k ks i).length) (hat : ∀ i, i < D → (if bitL lv i = 1 then ls[cntL lv i]?.getD zero32 else zero32) = partK hs (255 - i) (i + 1) (oth k ks i)) :
    ∀ i f, i ≤ D → i + f = F → upL lv k ls i (partK hs f i (agr k ks i)) = partK hs F 0 ks := by
  intro i
  induction i with
  | zero =>
    intro f _ hf
    obtain rfl : f = F := by omega
    rfl
  | succ i ih =>
    intro f h hf
    have h2 := partK_two (hs := hs) (fun x hx => h32 x ((agr_sub k ks i).mem hx)) (by omega : i < 256) (hlen i (by omega)) k
    have e2 : agr k ks (i + 1) = sideE i (bitL k i) (agr k ks i) := rfl
    have e3 : oth k ks i = sideE i (1 - bitL k i) (agr k ks i) := rfl
    have ih := ih (256 - i) (by omega) (by omega)
    have ha := hat i (by omega)
    rw [e3] at ha
    rw [h2, ← ha, show 255 - i = f by omega] at ih
    rw [e2]
    simp only [upL]
    exact ih
/-- the marks reach just as deep as the way -/
theorem marks_dep {k lv : List UInt8} {ks : List (List UInt8)} {D : Nat} (hm : Marks k ks lv D) (hD : D ≤ 256) (hlast : 0 < D → (oth k ks (D - 1)).isEmpty = false) : depL lv 256 = D ∧ cntL lv 256 = cntL lv D := by
  have h0 : ∀ m, D ≤ m → m ≤ 256 → depL lv m = depL lv D ∧ cntL lv m = cntL lv D := by
    intro m h1 h2
    induction m with
    | zero =>
      obtain rfl : D = 0 := by omega
      exact ⟨rfl, rfl⟩
    | succ m ih =>
      rcases Nat.lt_or_ge m D with h | h
      · obtain rfl : D = m + 1 := by omega
        exact ⟨rfl, rfl⟩
      · obtain ⟨e1, e2⟩ := ih h (by omega)
        have hb := hm m (by omega)
        rw [if_neg (by omega)] at hb
        show (if bitL lv m = 1 then m + 1 else depL lv m) = _ ∧ cntL lv m + bitL lv m = _
        rw [hb, if_neg (by omega), e1, e2]
        exact ⟨rfl, rfl⟩
  obtain ⟨e1, e2⟩ := h0 256 hD (Nat.le_refl _)
  refine ⟨?_, e2⟩
  rw [e1]
  cases D with
  | zero => rfl
  | succ d =>
    have hb := hm d (by omega)
    rw [if_pos ⟨by omega, hlast (by omega)⟩] at hb
    show (if bitL lv d = 1 then d + 1 else depL lv d) = _
    rw [if_pos hb]
/-- where just two keys have come apart, something stands beside -/
theorem oth_last {k : List UInt8} {ks : List (List UInt8)} {l : Nat} (h1 : 1 < (agr k ks l).length) (h2 : (agr k ks (l + 1)).length ≤ 1) : (oth k ks l).isEmpty = false := by
  have hb := bitL_lt k l
  have hsum : (agr k ks (l + 1)).length + (oth k ks l).length = (agr k ks l).length := by
    show (sideE l (bitL k l) (agr k ks l)).length + (sideE l (1 - bitL k l) (agr k ks l)).length = _
    generalize agr k ks l = es
    unfold sideE
    induction es with
    | nil => rfl
    | cons x es ih =>
      have hx := bitL_lt x l
      rw [List.filter_cons, List.filter_cons]
      rcases (by omega : bitL x l = bitL k l ∨ bitL x l = 1 - bitL k l) with h | h
      · have e1 : (bitL x l == bitL k l) = true := by simp [h]
        have e2 : (bitL x l == 1 - bitL k l) = false := by simp; omega
        rw [e1, e2]; simp; omega
      · have e1 : (bitL x l == bitL k l) = false := by simp; omega
        have e2 : (bitL x l == 1 - bitL k l) = true := by simp [h]
        rw [e1, e2]; simp; omega
  cases ho : (oth k ks l).isEmpty with
  | false => rfl
  | true =>
    rw [List.isEmpty_iff.1 ho] at hsum
    simp at hsum
    omega
end

section
open Go Go.RowKit

theorem setK_mem {hs : List Ent} {k v : List UInt8} : (k, v) ∈ setK hs k v := by
  unfold setK
  cases hx : ixK k hs with
  | none => simp
  | some i => exact List.mem_set (ixK_lt hx) _
theorem setK_keep {hs : List Ent} {k v x u : List UInt8} (h : (x, u) ∈ hs) (hne : x ≠ k) : (x, u) ∈ setK hs k v := by
  unfold setK
  cases hx : ixK k hs with
  | none => exact List.mem_append_left _ h
  | some i =>
    obtain ⟨j, hj⟩ := List.getElem?_of_mem h
    have hij : i ≠ j := by
      rintro rfl
      obtain ⟨w, hw⟩ := ixK_at hx
      rw [hj] at hw
      injection hw with hw
      injection hw with hw _
      exact hne hw
    refine List.mem_of_getElem? (i := j) ?_
    show (hs.set i (k, v))[j]? = _
    rw [List.getElem?_set_ne hij]
    exact hj
theorem setK_keys (hs : List Ent) (k v : List UInt8) : (setK hs k v).map Prod.fst = if k ∈ hs.map Prod.fst then hs.map Prod.fst else hs.map Prod.fst ++ [k] := by
  unfold setK
  cases hx : ixK k hs with
  | none =>
    have hn : ¬ k ∈ hs.map Prod.fst := fun h => by
      obtain ⟨p, hp, hpk⟩ := List.mem_map.1 h
      exact ixK_none.1 hx p hp hpk
    rw [if_neg hn, List.map_append]
    rfl
  | some i =>
    obtain ⟨u, hu⟩ := ixK_at hx
    have hm : k ∈ hs.map Prod.fst := List.mem_map.2 ⟨(k, u), List.mem_of_getElem? hu, rfl⟩
    rw [if_pos hm]
    exact map_set_self (f := Prod.fst) (y := (k, v)) hu rfl
theorem getK_set_ne {hs : List Ent} (h : Ents hs) {k v x : List UInt8} (hk : k.length = 32) (hv : v.length = 32) (hx : x ∈ hs.map Prod.fst) (hne : x ≠ k) : getK hs x = getK (setK hs k v) x := by
  obtain ⟨p, hp, rfl⟩ := List.mem_map.1 hx
  rw [getK_of h.nodup hp]
  have := getK_of (h.set hk hv).nodup (setK_keep (k := k) (v := v) (show (p.1, p.2) ∈ hs from hp) hne)
  exact this.symm
theorem getK_set_self {hs : List Ent} (h : Ents hs) {k v : List UInt8} (hk : k.length = 32) (hv : v.length = 32) : getK (setK hs k v) k = v := getK_of (h.set hk hv).nodup (setK_mem (hs := hs) (k := k) (v := v))
theorem getK_none {hs : List Ent} {k : List UInt8} (h : k ∉ hs.map Prod.fst) : getK hs k = zero32 := by
  have : ixK k hs = none := ixK_none.2 (fun p hp he => h (he ▸ List.mem_map.2 ⟨p, hp, rfl⟩))
  unfold getK
  rw [this]
theorem getK_nz {hs : List Ent} (h : Ents hs) (hnz : ∀ p ∈ hs, p.2 ≠ zero32) {k : List UInt8} (hk : k ∈ hs.map Prod.fst) : getK hs k ≠ zero32 := by
  obtain ⟨p, hp, rfl⟩ := List.mem_map.1 hk
  rw [getK_of h.nodup hp]
  exact hnz p hp
theorem partK_one {hs : List Ent} {f l : Nat} {x : List UInt8} (hx : x.length = 32) : partK hs f l [x] = mleafL x (getK hs x) := by
  unfold partK
  rw [mapRootL_le f l (by simp)]
  exact mrBase_app hx []
theorem all32_keys {hs : List Ent} (h : Ents hs) {os : List (List UInt8)} (hp : os.Perm (hs.map Prod.fst)) : All32 os := fun x hx => by
  obtain ⟨p, hp2, rfl⟩ := List.mem_map.1 (hp.mem_iff.1 hx)
  exact h.k32 p hp2

/-- what stands at the end of a proof -/
def endK (hs : List Ent) (k : List UInt8) : List (List UInt8) → List (List UInt8)
  | [o] => if o = k then [] else [o, getK hs o]
  | _ => []
/-- a map's proof about a key -/
structure ProofOf (hs : List Ent) (k lv : List UInt8) (ls : List (List UInt8)) : Prop where
  ex : ∃ os D, os.Perm (hs.map Prod.fst) ∧ D ≤ 256 ∧ (∀ i, i < D → 1 < (agr k os i).length) ∧ (agr k os D).length ≤ 1 ∧ Marks k os lv D ∧ ls = pathK hs k os D ++ endK hs k (agr k os D)

theorem changed_proof {hs : List Ent} {k v lv : List UInt8} {ls : List (List UInt8)} (h : Ents hs) (hnz : ∀ p ∈ hs, p.2 ≠ zero32) (hk : k.length = 32) (hv : v.length = 32) (hvz : (v == zero32) = false) (hp : ProofOf hs k lv ls) :
    changedE (mapRootL 256 0 (entsL hs)) k (getK hs k) v lv ls = 0 ∧ changedS (mapRootL 256 0 (entsL hs)) k (getK hs k) v lv ls = mapRootL 256 0 (entsL (setK hs k v)) := by
  obtain ⟨os, D, hperm, hD, hlen, hend, hmk, hls⟩ := hp.ex
  have h32 := all32_keys h hperm
  have hE' := h.set hk hv
  obtain ⟨F, hF⟩ : ∃ F, F = 256 := ⟨_, rfl⟩
  have hdep := marks_dep hmk hD (fun hd => by
    have e : D - 1 + 1 = D := by omega
    have := oth_last (k := k) (ks := os) (l := D - 1) (hlen (D - 1) (by omega)) (by rw [e]; exact hend)
    exact this)
  have hpl := path_len (hs := hs) hmk hD D (Nat.le_refl _)
  have hat : ∀ i, i < D → (if bitL lv i = 1 then ls[cntL lv i]?.getD zero32 else zero32) = partK hs (255 - i) (i + 1) (oth k os i) := fun i hi => by rw [hls]; exact path_at hmk hD _ hi
  have hr : mapRootL 256 0 (entsL hs) = partK hs F 0 os := by rw [hF]; exact (rootK_perm h hperm).symm
  have hroot := up_root hF h32 (by omega) hlen hat D (F - D) (Nat.le_refl _) (by omega)
  rw [← hr] at hroot
  -- the keys behind the change
  obtain ⟨os', hos'⟩ : ∃ os', (if k ∈ os then os else os ++ [k]) = os' := ⟨_, rfl⟩
  have hperm' : os'.Perm ((setK hs k v).map Prod.fst) := by
    rw [setK_keys, ← hos']
    by_cases hm : k ∈ os
    · rw [if_pos hm, if_pos (hperm.mem_iff.1 hm)]; exact hperm
    · rw [if_neg hm, if_neg (fun h2 => hm (hperm.mem_iff.2 h2))]; exact hperm.append_right _
  have h32' := all32_keys hE' hperm'
  have hoth : ∀ i, oth k os' i = oth k os i := fun i => by
    rw [← hos']
    by_cases hm : k ∈ os
    · rw [if_pos hm]
    · rw [if_neg hm]; exact oth_app k os i
  have hagr : ∀ i, agr k os' i = if k ∈ os then agr k os i else agr k os i ++ [k] := fun i => by
    rw [← hos']
    by_cases hm : k ∈ os
    · rw [if_pos hm, if_pos hm]
    · rw [if_neg hm, if_neg hm]; exact agr_app k os i
  have hlen' : ∀ i, i < D → 1 < (agr k os' i).length := fun i hi => by
    rw [hagr]
    have := hlen i hi
    split
    · exact this
    · rw [List.length_append]; omega
  have hat' : ∀ i, i < D → (if bitL lv i = 1 then ls[cntL lv i]?.getD zero32 else zero32) = partK (setK hs k v) (255 - i) (i + 1) (oth k os' i) := fun i hi => by
    rw [hat i hi, hoth]
    exact partK_congr (fun x hx => getK_set_ne h hk hv (hperm.mem_iff.1 (oth_mem hx)) (oth_ne hx))
  have hr' : mapRootL 256 0 (entsL (setK hs k v)) = partK (setK hs k v) F 0 os' := by rw [hF]; exact (rootK_perm hE' hperm').symm
  have hroot' := up_root hF h32' (by omega) hlen' hat' D (F - D) (Nat.le_refl _) (by omega)
  rw [← hr'] at hroot'
  have hlast : (k ∈ os) → k ∈ agr k os D := fun hm => agr_mem.2 ⟨hm, fun _ _ => rfl⟩
  have hagD := hagr D
  generalize hRd : mapRootL 256 0 (entsL hs) = R at *
  generalize hRd' : mapRootL 256 0 (entsL (setK hs k v)) = R' at *
  clear hr hr'
  unfold changedE changedS absentE thereE freshL
  rw [hdep.1, hdep.2, ← hpl, hvz]
  simp only [Bool.false_eq_true, if_false]
  by_cases hm : k ∈ os
  · -- the key is there
    have hka := hlast hm
    have hA : agr k os D = [k] := by
      match hx : agr k os D, hend with
      | [], _ => rw [hx] at hka; cases hka
      | [o], _ => rw [hx] at hka; rw [List.mem_singleton.1 hka]
    rw [if_pos hm, hA] at hagD
    rw [hA] at hls hroot
    rw [hagD] at hroot'
    rw [partK_one hk] at hroot hroot'
    rw [getK_set_self h hk hv] at hroot'
    have hek : endK hs k [k] = [] := by simp [endK]
    rw [hek, List.append_nil] at hls
    have hgz : (getK hs k == zero32) = false := by simpa using getK_nz h hnz (hperm.mem_iff.1 hm)
    rw [hgz]
    simp only [Bool.false_eq_true, if_false]
    rw [← hls, hroot, hroot']
    simp
  · have hk0 : getK hs k = zero32 := getK_none (fun h2 => hm (hperm.mem_iff.2 h2))
    rw [if_neg hm] at hagD
    rw [hk0]
    simp only [BEq.rfl, if_true]
    match hx : agr k os D, hend with
    | [], _ =>
      rw [hx, List.nil_append] at hagD
      rw [hx] at hls hroot
      rw [hagD, partK_one hk, getK_set_self h hk hv] at hroot'
      rw [partK_nil] at hroot
      have hek : endK hs k [] = [] := rfl
      rw [hek, List.append_nil] at hls
      rw [← hls, hroot]
      simp [hroot']
    | [o], _ =>
      have hoa : o ∈ agr k os D := by rw [hx]; simp
      obtain ⟨hoo, hob⟩ := agr_mem.1 hoa
      have hok : o ≠ k := fun he => hm (he ▸ hoo)
      have ho32 := h32 o hoo
      have hkeyo := hperm.mem_iff.1 hoo
      have hu := getK_nz h hnz hkeyo
      have hgo := getK_set_ne (v := v) h hk hv hkeyo hok
      rw [hx] at hagD hls hroot
      rw [partK_one ho32] at hroot
      obtain ⟨u, hud⟩ : ∃ u, getK hs o = u := ⟨_, rfl⟩
      rw [hud] at hu hgo hroot
      have hek : endK hs k [o] = [o, u] := by simp [endK, hok, hud]
      rw [hek] at hls
      have hll : ls.length = (pathK hs k os D).length + 2 := by rw [hls]; simp
      have l0 : ls[(pathK hs k os D).length]? = some o := by rw [hls, List.getElem?_append_right (Nat.le_refl _), Nat.sub_self]; rfl
      have l1 : ls[(pathK hs k os D).length + 1]? = some u := by rw [hls, List.getElem?_append_right (by omega), show (pathK hs k os D).length + 1 - (pathK hs k os D).length = 1 by omega]; rfl
      have hdl := difL_lt ho32 hk hok
      have hpart := difL_part o k hdl
      have hDd : D ≤ difL o k := by
        rcases Nat.lt_or_ge (difL o k) D with h1 | h1
        · exact absurd (hob _ h1) hpart
        · exact h1
      have hpair := mapRoot_pair k v o u hk ho32 (difL o k) hdl hpart (F - D) D hDd (by omega) (fun j _ h2 => difL_same o k h2)
      have hnew : partK (setK hs k v) (F - D) D (agr k os' D) = downL k D (difL o k) (sideL k (difL o k) (mleafL k v) (mleafL o u)) := by
        rw [hagD, ← hpair]
        unfold partK
        have e1 : ([o] ++ [k]).map (entK (setK hs k v)) = [o ++ u, k ++ v] := by
          show [entK (setK hs k v) o, entK (setK hs k v) k] = _
          unfold entK
          rw [getK_set_self h hk hv, ← hgo]
        rw [e1]
        refine mapRootL_perm (F - D) D ?_ (List.Perm.swap _ _ _)
        unfold Parts
        refine List.pairwise_pair.2 ⟨difL o k, hDd, by omega, ?_⟩
        rw [bitL_app ho32 hdl, bitL_app hk hdl]
        exact hpart
      rw [hnew] at hroot'
      have b1 : (o == k) = false := by simpa using hok
      have b2 : (u == zero32) = false := by simpa using hu
      have b3 : ¬ difL o k < D := by omega
      have b4 : ¬ ls.length = (pathK hs k os D).length := by omega
      rw [l0, l1]
      simp only [Option.getD_some]
      rw [if_neg b4, if_pos hll, b1, b2, if_neg (by simp; omega)]
      simp only [hroot, if_neg b4, hroot']
      simp
end

section
open Go Go.RowKit Go.Maps Go.MapKept

theorem or_bit : ∀ (x : Fin 256) (r j : Fin 8), (x.val ||| 2 ^ (7 - r.val)) / 2 ^ (7 - j.val) % 2 = if j.val = r.val then 1 else x.val / 2 ^ (7 - j.val) % 2 := by decide +kernel
theorem or_lt : ∀ (x : Fin 256) (r : Fin 8), (x.val ||| 2 ^ (7 - r.val)) < 256 := by decide +kernel
theorem mark_set {lv : List UInt8} (hl : lv.length = 32) {l : Nat} (hlt : l < 256) {x y : UInt8} (hx : lv[l / 8]? = some x) (hy : y.toNat = x.toNat ||| 2 ^ (7 - l % 8)) (i : Nat) (hi : i < 256) : bitL (lv.set (l / 8) y) i = if i = l then 1 else bitL lv i := by
  unfold bitL
  by_cases hq : i / 8 = l / 8
  · rw [hq, List.getElem?_set_self (by omega), hx]
    simp only [Option.getD_some]
    rw [hy, or_bit ⟨x.toNat, x.toNat_lt⟩ ⟨l % 8, Nat.mod_lt _ (by omega)⟩ ⟨i % 8, Nat.mod_lt _ (by omega)⟩]
    simp only
    by_cases he : i = l
    · subst he; simp
    · rw [if_neg he, if_neg (by omega)]
  · rw [List.getElem?_set_ne (by omega), if_neg (by intro h; rw [h] at hq; exact hq rfl)]
theorem marks_next {k lv : List UInt8} {ks : List (List UInt8)} {l : Nat} (hl : lv.length = 32) (hlt : l < 256) (hm : Marks k ks lv l) {x y : UInt8} (hx : lv[l / 8]? = some x) (hy : y.toNat = x.toNat ||| 2 ^ (7 - l % 8)) (ho : (oth k ks l).isEmpty = false) : Marks k ks (lv.set (l / 8) y) (l + 1) := by
  intro i hi
  rw [mark_set hl hlt hx hy i hi]
  by_cases he : i = l
  · subst he
    rw [if_pos rfl, if_pos ⟨by omega, ho⟩]
  · rw [if_neg he, hm i hi]
    by_cases h1 : i < l ∧ (oth k ks i).isEmpty = false
    · rw [if_pos h1, if_pos ⟨by omega, h1.2⟩]
    · rw [if_neg h1, if_neg (fun h => h1 ⟨by omega, h.2⟩)]
theorem marks_skip {k lv : List UInt8} {ks : List (List UInt8)} {l : Nat} (hm : Marks k ks lv l) (ho : (oth k ks l).isEmpty = true) : Marks k ks lv (l + 1) := by
  intro i hi
  rw [hm i hi]
  by_cases he : i = l
  · subst he
    rw [if_neg (by omega), if_neg (fun h => by rw [ho] at h; cases h.2)]
  · by_cases h1 : i < l ∧ (oth k ks i).isEmpty = false
    · rw [if_pos h1, if_pos ⟨by omega, h1.2⟩]
    · rw [if_neg h1, if_neg (fun h => h1 ⟨by omega, h.2⟩)]
theorem marks_zero {k : List UInt8} {ks : List (List UInt8)} : Marks k ks zero32 0 := by
  intro i hi
  rw [if_neg (by omega)]
  unfold bitL zero32
  rw [List.getElem?_replicate_of_lt (by omega)]
  simp
theorem agr_end {k : List UInt8} {os : List (List UInt8)} (h32 : All32 os) (hs : Sorted32 os) {l : Nat} (hl : 256 ≤ l) : (agr k os l).length ≤ 1 := by
  have h1 : Sorted32 (agr k os l) := hs.sublist (agr_sub k os l)
  have h2 := sorted_parts (lvl := 256) (fun x hx => h32 x ((agr_sub k os l).mem hx)) h1 (fun x hx y hy j hj => agr_pre k os l x hx y hy j (by omega)) (Nat.le_refl _)
  exact Parts.zero (lvl := 256) (by simpa using h2)
theorem mpL_set {lv : List UInt8} (hl : lv.length = 32) {i : Nat} (hi : i < 32) (y : UInt8) (s : Value) : (mpL lv s).set i (u8v y) = mpL (lv.set i y) s := by
  unfold mpL
  rw [List.set_append_left _ _ (by rw [List.length_map]; omega), List.map_set]
theorem mpL_put {lv : List UInt8} (hl : lv.length = 32) (s t : Value) : (mpL lv s).set 32 t = mpL lv t := by
  unfold mpL
  rw [List.set_append_right _ _ (by rw [List.length_map]; omega), List.length_map, hl]
  rfl

theorem cells_upd {w w' : World} {g : Nat} {a : Option Addr} {xs : List Value} (h : Cells w a xs) (u : Upd w g w') (hne : ∀ b, a = some b → b.block ≠ g) : Cells w' a xs := by
  rcases h with h | ⟨b, off, ha, h⟩
  · exact .inl h
  · refine .inr ⟨b, off, ha, fun i v hv => ?_⟩
    have hb := hne _ ha
    rw [World.cell?_of_block (a := ⟨b, off + i, none⟩) (u.block b hb)]
    exact h i v hv
theorem shiftz_block {a q : Option Addr} {c H z : Nat} {Q : Nat → Prop} (hq : shiftz a c H z = q) (hne : ∀ b, a = some b → Q b.block) : ∀ b, q = some b → Q b.block := by
  intro b hb
  unfold shiftz at hq
  split at hq
  · exact hne b (hq.trans hb)
  · cases a with
    | none => rw [← hq] at hb; cases hb
    | some a =>
      rw [← hq] at hb
      simp only [Option.map_some, Option.some.injEq] at hb
      have h1 := hne a rfl
      rw [← hb]
      unfold Addr.add
      split <;> exact h1
theorem or_val {x y : UInt8} {r : Nat} (hr : r < 8) (hy : y.toNat = x.toNat ||| 2 ^ (7 - r)) : bits .or .u8 (x.toNat : Int) (128 / 2 ^ r) = (y.toNat : Int) := by
  have e : (128 : Int) / 2 ^ r = ((2 ^ (7 - r) : Nat) : Int) := by
    rcases (by omega : r = 0 ∨ r = 1 ∨ r = 2 ∨ r = 3 ∨ r = 4 ∨ r = 5 ∨ r = 6 ∨ r = 7) with rfl | rfl | rfl | rfl | rfl | rfl | rfl | rfl <;> rfl
  have h2 : 2 ^ (7 - r) < 256 := by
    rcases (by omega : r = 0 ∨ r = 1 ∨ r = 2 ∨ r = 3 ∨ r = 4 ∨ r = 5 ∨ r = 6 ∨ r = 7) with rfl | rfl | rfl | rfl | rfl | rfl | rfl | rfl <;> decide
  rw [e, (bits_u8 x.toNat (2 ^ (7 - r)) x.toNat_lt h2).2.1, hy]
theorem cells_grown {w w' : World} {a : Option Addr} {xs : List Value} {r : Option Nat} (h : Cells w a xs) (k : w.grownBy w' r) (hne : ∀ b, a = some b → some b.block ≠ r) : Cells w' a xs := by
  rcases h with h | ⟨b, off, ha, h⟩
  · exact .inl h
  · refine .inr ⟨b, off, ha, fun i v hv => ?_⟩
    have hb := hne _ ha
    have hc := h i v hv
    have hlt := block_lt_of_cell hc
    rw [World.cell?_of_block (a := ⟨b, off + i, none⟩) (k.block b hlt hb)]
    exact hc
theorem path_32 (hs : List Ent) (k : List UInt8) (ks : List (List UInt8)) : ∀ l, All32 (pathK hs k ks l)
  | 0 => All32.nil
  | l + 1 => by
    refine (path_32 hs k ks l).append ?_
    split
    · exact All32.nil
    · exact All32.one (partK_len _ _ _ _)
theorem wpl_rows2 {ops : Array Oper} {rest : List Oper} {o : Oper} {a : Act} {w : World} {Q : Exit → Act → World → Prop} (hgd : o.guard = none) {p q : Operand} {x y : List UInt8} (ho : o.op = .buildSlice 29 2 #[(0, p), (1, q)]) (hp : a.eval p = .agg (x.map u8v).toArray) (hq : a.eval q = .agg (y.map u8v).toArray) (hx : x.length = 32) (hy : y.length = 32)
    (h : wpList Try.prog ops Q rest (a.put o.dst (.slice (some ⟨w.heap.size, 0, none⟩) 2 2)) (w.alloc (.cells (rows [x, y]).toArray 32))) : wpList Try.prog ops Q (o :: rest) a w := by
  obtain ⟨i0, hi, hz, hsz, hb1⟩ := info_parts info_sum
  refine wpl_step hgd ?_ h
  have hf : ∀ cells : Array Value, cells.size = 64 → Instr.fill (fun i => some (i * 32, 32)) cells [(0, .agg (x.map u8v).toArray), (1, .agg (y.map u8v).toArray)] = some (rows [x, y]).toArray := by
    intro cells hc
    have h := Great.fill_whole (s := 32) (by omega) [.agg (x.map u8v).toArray, .agg (y.map u8v).toArray] cells (by intro v hv; simp only [List.mem_cons, List.not_mem_nil, or_false] at hv; rcases hv with rfl | rfl <;> simp [Value.cells, hx, hy]) (by simp [hc])
    simpa [Value.cells, rows] using h
  have h1 := run_buildSlice (P := Try.prog) w 29 32 2 #[(0, .agg (x.map u8v).toArray), (1, .agg (y.map u8v).toArray)] (rows [x, y]).toArray i0 _ Try.underlying29 hi hz (by rw [hsz]; omega) (by rw [hsz]; omega) (by rw [hsz]; exact hf _ (by simp))
  have he : (#[(0, p), (1, q)].map fun (r : Nat × Operand) => (r.1, a.eval r.2)) = #[(0, .agg (x.map u8v).toArray), (1, .agg (y.map u8v).toArray)] := by simp [hp, hq]
  have h2 : (Instr.buildSlice 29 2 (#[(0, p), (1, q)].map fun (r : Nat × Operand) => (r.1, a.eval r.2))).run Try.prog w = .ok (.slice (some ⟨w.heap.size, 0, none⟩) 2 2) (w.alloc (.cells (rows [x, y]).toArray 32)) := by rw [he]; exact h1
  unfold execOp
  simp only [ho, Sem.run_bind]
  rw [h2]
  rfl
theorem wpl_append_rows {ops : Array Oper} {rest : List Oper} {o : Oper} {a : Act} {w : World} {Q : Exit → Act → World → Prop} (hgd : o.guard = none) (s x : Operand)
    (ho : o.op = .call { callee := .builtin .append, args := #[s, x], argTypes := #[29, 29] }) (base : Nat) {v : Value} {n m c g : Nat} {ls ys : List (List UInt8)} {T : TypeId}
    (hs : a.eval s = v) (hx : a.eval x = .slice (some ⟨g, 0, none⟩) m c) (hown : w.ownsRow base 32 32 v n (rows ls)) (hy : ys.length = m) (h32 : All32 ys) (hb : Blk w g (rows ys) T)
    (hn : (n + m) * 32 ≤ 140737488355328) (hbase : base ≤ w.heap.size)
    (h : ∀ v' w', w'.ownsRow base 32 32 v' (n + m) (rows (ls ++ ys)) → w.grownBy w' v.ownBlock → wpList Try.prog ops Q rest (a.put o.dst v') w') : wpList Try.prog ops Q (o :: rest) a w := by
  obtain ⟨i0, hi, hz, hsz, hb1⟩ := info_parts info_sum
  exact wpList_append_own w hgd s x 29 ho base 32 i0 _ 32 32 Try.underlying29 hi hz hsz hb1 zsum_size (by decide) v n (rows ls) hs hown ⟨g, 0, none⟩ m c (rows ys) hx
    (by rw [rows_length h32, hy]; omega) (news_blk hb) (one_u8 _) (by unfold maxLen; omega) hn hbase (fun v' w' h1 h2 _ => h v' w' (by rw [rows_append]; exact h1) h2)
theorem mpL_one (lv : List UInt8) (s : Value) (hs : s.oneCell' = true) : ∀ v ∈ mpL lv s, v.oneCell' = true := fun v hv => by
  unfold mpL at hv
  rcases List.mem_append.1 hv with h | h
  · exact one_u8 lv v h
  · rw [List.mem_singleton.1 h]; exact hs

set_option maxRecDepth 100000 in
set_option maxHeartbeats 4000000 in
theorem prove_c (p g : Nat) (hs : List Ent) (k : List UInt8) (w : World) (hm : TMap w p g hs) (hn : hs.length ≤ 1000) (hk : k.length = 32) :
    Calls Try.prog 34 #[.pointer (some ⟨p, 0, none⟩), .agg (k.map u8v).toArray] w fun e w' => ∃ (lv : List UInt8) (ls : List (List UInt8)) (a : Option Addr) (c : Nat), e = .returned (.agg (mpL lv (.slice a ls.length c)).toArray) ∧
      lv.length = 32 ∧ All32 ls ∧ Cells w' a (rows ls) ∧ ProofOf hs k lv ls ∧ ls.length ≤ 2000 ∧ Ext w w' := by
  have HM := hid hm
  have HK := hid hk
  have HKV := hid (show (k.map u8v).length = 32 by rw [List.length_map]; exact hk)
  clear hm hk
  go_enter Try.func34, Try.ntmps34
  go_upto_region 1 with (fail)
  generalize hwA : World.alloc (World.alloc w _) _ = wA
  have kA : Blk wA w.heap.size (k.map u8v) 32 := by rw [← hwA]; exact (Blk.mk_alloc rfl rfl).alloc _
  have rA : Blk wA (w.heap.size + 1) (mpL zero32 (.slice none 0 0)) 62 := by rw [← hwA]; exact Blk.mk_alloc (by simp) (by rfl)
  have eA : Ext w wA := by rw [← hwA]; exact ((Ext.refl w).alloc _).alloc _
  have KA := hid kA
  have RA := hid rA
  have EA := hid eA
  have MA := hid (HM.out.ext eA)
  clear hwA kA rA eA HM
  have hz33 := hid (mpL_length zero32_l (.slice none 0 0))
  have oz : ∀ v ∈ mpL zero32 (.slice none 0 0), v.oneCell' = true := mpL_one _ _ rfl
  go_wp2_with (refine wpl_storew rfl _ (.tmp 5) _ rfl rfl rfl (Blk.mk_alloc (vs := mpL zero32 (.slice none 0 0)) rfl (by rfl)) agg_mproof hz33.out (xs := mpL zero32 (.slice none 0 0)) hz33.out oz ?_)
  intro w1 b1 u1
  have e1 : Ext wA w1 := u1.ext ((Ext.refl wA).alloc _) (Nat.le_refl _)
  have P1 := hid b1
  have K1 := hid (KA.out.ext e1)
  have R1 := hid (RA.out.ext e1)
  have M1 := hid (MA.out.ext e1)
  have E1 := hid (EA.out.ext e1)
  have hk5 : w.heap.size + 1 < wA.heap.size := RA.out.lt
  clear b1 u1 e1 KA RA MA EA
  obtain ⟨g5, hg5⟩ : ∃ g5, wA.heap.size = g5 := ⟨_, rfl⟩
  rw [hg5] at P1 hk5 ⊢
  have HL1 := hid (show g5 < w1.heap.size from P1.out.lt)
  clear hg5
  go_wp2_with fail
  refine (keys_c p g hs w1 M1.out hn).mono ?_
  rintro e w2 ⟨ka, os, kd, rfl, hop, hos, hoc, hod, hdm, e2⟩
  have P2 := hid (P1.out.ext e2)
  have K2 := hid (K1.out.ext e2)
  have R2 := hid (R1.out.ext e2)
  have M2 := hid (M1.out.ext e2)
  have E2 := hid (E1.out.ext e2)
  have C2 := hid hoc
  have HOP := hid hop
  have HOS := hid hos
  have H32 := hid (all32_keys M2.out.ents hop)
  have hn1 : os.length ≤ 1000 := by rw [hop.length_eq, List.length_map]; exact hn
  clear e2 hop hos hoc P1 K1 R1 M1 E1
  obtain ⟨B2, hB2⟩ : ∃ B2, w2.heap.size = B2 := ⟨_, rfl⟩
  have h5B : g5 < B2 := by rw [← hB2]; exact P2.out.lt
  have hpB : p < B2 := by rw [← hB2]; exact M2.out.blk.lt
  have hgB : g < B2 := by rw [← hB2]; exact M2.out.map.lt
  have hp5 : p ≠ g5 ∧ g ≠ g5 := ⟨fun he => by have h1 := M2.out.blk; have h2 := P2.out; rw [he] at h1; unfold Blk at h1 h2; rw [h1] at h2; injection h2 with h2; injection h2 with h2; have h3 := congrArg Array.size h2; simp [mpL, zero32] at h3, fun he => by obtain ⟨es, c, h1, _⟩ := M2.out.map; have h2 := P2.out; rw [he] at h1; unfold Blk at h2; rw [h1] at h2; cases h2⟩
  have hw2 : w.heap.size ≤ B2 := by rw [← hB2]; exact E2.out.size
  have HB2 := hid hB2
  have hka0 : ∀ b, ka = some b → b.block ≠ g5 ∧ b.block < B2 := fun b hb => by have h9 := hdm.2 b hb; have := HL1.out; rw [hB2] at h9; exact ⟨by omega, h9.2⟩
  clear hB2 hdm
  go_wp2_with fail
  go_loopw [6, 7] (fun kv lv' wr => ∃ (l : Nat) (lv : List UInt8) (pv : Value) (ka : Option Addr) (kn kc : Nat), kv = .slice ka kn kc ∧ lv' = .int .i64 (l : Int) ∧ (agr k os l).length = kn ∧ kn ≤ kc ∧ l ≤ 256 ∧ (∀ b, ka = some b → b.block ≠ g5 ∧ b.block < B2) ∧ Cells wr ka (rows (agr k os l)) ∧ (∀ i, i < l → 1 < (agr k os i).length) ∧ Marks k os lv l ∧ lv.length = 32 ∧
      Blk wr g5 (mpL lv pv) 62 ∧ wr.ownsRow B2 32 32 pv (pathK hs k os l).length (rows (pathK hs k os l)) ∧ Blk wr w.heap.size (k.map u8v) 32 ∧ Blk wr (w.heap.size + 1) (mpL zero32 (.slice none 0 0)) 62 ∧ TMap wr p g hs ∧ Ext w wr ∧ B2 ≤ wr.heap.size) (fun _ lv' _ => 256 - (intOf lv').toNat)
  case atStart => exact ⟨0, zero32, .slice none 0 0, ka, os.length, kd, rfl, rfl, rfl, hod, by omega, hka0, C2.out, by omega, marks_zero, zero32_l, P2.out, ⟨by simp [pathK, rows], .inl ⟨rfl, rfl⟩⟩, K2.out, R2.out, M2.out, E2.out, by rw [HB2.out]; exact Nat.le_refl _⟩
  case round =>
    obtain ⟨l, lv, pv, ka, kn, kc, rfl, rfl, hkn, hnc, hl256, hka, hcl, hlen, hmk, hlv, hpb, hown, hkb, hrb, hmt, hex, hbb⟩ := hrel
    have PR := hid hpb
    have OR := hid hown
    have KR := hid hkb
    have RR := hid hrb
    have MR := hid hmt
    have ER := hid hex
    have CR := hid hcl
    have HLEN := hid hlen
    have HMK := hid hmk
    have HLV := hid hlv
    have HKN := hid hkn
    clear hpb hown hkb hrb hmt hex hcl hlen hmk hlv hkn P2 K2 R2 M2 E2 C2 HB2
    have hkn1 : kn ≤ 1000 := by rw [← HKN.out]; exact Nat.le_trans (agr_sub k os l).length_le hn1
    by_cases h1 : 1 < kn
    · have hl : l < 256 := by
        rcases Nat.lt_or_ge l 256 with h | h
        · exact h
        · have := agr_end H32.out HOS.out (k := k) h
          rw [HKN.out] at this; omega
      have d1 : decide ((1 : Int) < (kn : Int)) = true := decide_eq_true (by omega)
      have d2 : decide (1 < kn) = true := decide_eq_true h1
      have h32l : All32 (agr k os l) := fun x hx => H32.out x ((agr_sub k os l).mem hx)
      have hsl : Sorted32 (agr k os l) := HOS.out.sublist (agr_sub k os l)
      have hhv := hid (fun w' h => halves_c (agr k os l) l ka kn kc w' HKN.out hkn1 hnc h32l hl h)
      obtain ⟨sp0, sp1⟩ := halves_split h32l hsl (agr_pre k os l) hl
      have hHle : hiN l (agr k os l) ≤ kn := by rw [← HKN.out]; exact hiN_le _ _
      have l0 : ((agr k os l).take (hiN l (agr k os l))).length = hiN l (agr k os l) := by rw [List.length_take, HKN.out]; omega
      have l1 : ((agr k os l).drop (hiN l (agr k os l))).length = kn - hiN l (agr k os l) := by rw [List.length_drop, HKN.out]
      have c0 := CR.out.rowsTake h32l (hiN l (agr k os l))
      have c1 := CR.out.rowsShift h32l kc (hiN l (agr k os l)) (by rw [HKN.out]; exact hnc)
      obtain ⟨H, hH⟩ : ∃ H, hiN l (agr k os l) = H := ⟨_, rfl⟩
      rw [hH] at sp0 sp1 hHle l0 l1 c0 c1 hhv
      rw [sp0] at l0 c0
      rw [sp1] at l1 c1
      obtain ⟨qs, hqs⟩ : ∃ q, shiftz ka kc H 32 = q := ⟨_, rfl⟩
      rw [hqs] at c1 hhv
      have hqa := shiftz_block (Q := fun n => n ≠ g5 ∧ n < B2) hqs hka
      have L0 := hid l0
      have L1 := hid l1
      have C0 := hid c0
      have C1 := hid c1
      have hbit := hid (fun w' => bit_c k l w' HK.out hl)
      have hbl := bitL_lt k l
      clear sp0 sp1 l0 l1 c0 c1 hH hqs
      go_wp2_with fail
      refine (hhv.out wr CR.out).mono ?_
      rintro e w3 ⟨rfl, e3⟩
      have O3 := hid (ownsRow_ext OR.out e3)
      have D0 := hid (C0.out.ext e3)
      have D1 := hid (C1.out.ext e3)
      have hb3 : B2 ≤ w3.heap.size := Nat.le_trans hbb e3.size
      have P3 := hid (PR.out.ext e3)
      have K3 := hid (KR.out.ext e3)
      have R3 := hid (RR.out.ext e3)
      have M3 := hid (MR.out.ext e3)
      have E3 := hid (ER.out.ext e3)
      clear e3 PR KR RR MR ER
      clear C0 C1 OR hbb CR hhv
      go_wp2_with (first | (refine wpl_loadw rfl 32 (.tmp 3) rfl rfl K3.out agg_apisum HKV.out ?_))
      refine (hbit.out w3).mono ?_
      rintro e w4 ⟨rfl, e4⟩
      have O4 := hid (ownsRow_ext O3.out e4)
      have F0 := hid (D0.out.ext e4)
      have F1 := hid (D1.out.ext e4)
      have hb4 : B2 ≤ w4.heap.size := Nat.le_trans hb3 e4.size
      have P4 := hid (P3.out.ext e4)
      have K4 := hid (K3.out.ext e4)
      have R4 := hid (R3.out.ext e4)
      have M4 := hid (M3.out.ext e4)
      have E4 := hid (E3.out.ext e4)
      clear e4 P3 K3 R3 M3 E3
      clear D0 D1 O3 hb3 hbit
      rcases (by omega : bitL k l = 0 ∨ bitL k l = 1) with hb0 | hb1
      · have eo : agr k os (l + 1) = sideE l 0 (agr k os l) := by show sideE l (bitL k l) _ = _; rw [hb0]
        have et : oth k os l = sideE l 1 (agr k os l) := by show sideE l (1 - bitL k l) _ = _; rw [hb0]
        rw [← eo] at F0 L0
        rw [← et] at F1 L1
        rw [hb0]
        clear eo et hbl
        obtain ⟨tn, htn⟩ : ∃ tn, kn - H = tn := ⟨_, rfl⟩
        obtain ⟨tc, htc⟩ : ∃ tc, kc - H = tc := ⟨_, rfl⟩
        rw [htn] at L1 ⊢
        rw [htc]
        have hoc : H ≤ kc := by omega
        have htt : tn ≤ tc := by omega
        have htn1 : tn ≤ 1000 := by omega
        clear htn htc hHle
        by_cases ht : 0 < tn
        · have d3 : decide ((0 : Int) < (tn : Int)) = true := decide_eq_true (by omega)
          have d4 : decide (0 < tn) = true := decide_eq_true ht
          go_wp2_with fail
          obtain ⟨q8, hq8⟩ : ∃ q8, l / 8 = q8 := ⟨_, rfl⟩
          have hw8 : IntKind.i64.wrap ((l : Int) / 8) = (q8 : Int) := by rw [IntWalk.i64_in _ (by omega)]; omega
          have q32 : q8 < 32 := by omega
          have i0 : (0 : Int) ≤ (q8 : Int) := by omega
          have i1 : (q8 : Int) < 32 := by omega
          obtain ⟨r8, hr8⟩ : ∃ r8, l % 8 = r8 := ⟨_, rfl⟩
          have ht8 : (l : Int).tmod 8 = (r8 : Int) := by rw [Int.tmod_eq_emod_of_nonneg (by omega)]; omega
          have r80 : (0 : Int) ≤ (r8 : Int) := by omega
          have r88 : r8 < 8 := by omega
          have HR8 := hid hr8
          clear hr8
          obtain ⟨x8, hx8⟩ : ∃ x, lv[q8]? = some x := ⟨lv[q8]'(by rw [HLV.out]; exact q32), by simp⟩
          have hgx : (mpL lv pv)[q8]? = some (.int .u8 (x8.toNat : Int)) := by unfold mpL; rw [List.getElem?_append_left (by rw [List.length_map, HLV.out]; exact q32), List.getElem?_map, hx8]; rfl
          obtain ⟨y8, hy8⟩ : ∃ y : UInt8, y.toNat = x8.toNat ||| 2 ^ (7 - r8) := ⟨UInt8.ofNat (x8.toNat ||| 2 ^ (7 - r8)), by rw [UInt8.toNat_ofNat']; exact Nat.mod_eq_of_lt (or_lt ⟨x8.toNat, x8.toNat_lt⟩ ⟨r8, r88⟩)⟩
          have hor : bits .or .u8 (x8.toNat : Int) (128 / 2 ^ r8) = (y8.toNat : Int) := or_val r88 hy8
          have HMK2 := hid (marks_next (y := y8) HLV.out hl HMK.out (by rw [hq8]; exact hx8) (by rw [HR8.out]; exact hy8) (by cases ho : (oth k os l).isEmpty with | false => rfl | true => (have := L1.out; rw [List.isEmpty_iff.1 ho] at this; simp at this; omega)))
          rw [hq8] at HMK2
          have HX8 := hid hx8
          have HY8 := hid hy8
          have HQ8 := hid hq8
          clear hx8 hq8 hy8
          obtain ⟨C, hC⟩ : ∃ C : World → Prop, C = Cls w4 w4 [] [] := ⟨_, rfl⟩
          have hC0 : ∀ w', C w' ↔ Cls w4 w4 [] [] w' := fun w' => by rw [hC]
          clear hC
          have HCC := hid hC0
          clear hC0
          have hCx : ∀ w w', C w → Ext w w' → C w' := fun w w' h1 h2 => (HCC.out w').2 (((HCC.out w).1 h1).ext h2)
          have hCA : C w4 := (HCC.out _).2 (Cls.no_room (Ext.refl w4) (Kept.none _))
          have hc8 : ∀ w1, C w1 → w1.cell? ⟨g5, q8, none⟩ = some (.int .u8 (x8.toNat : Int)) := fun w1 h1 => (P4.out.ext ((HCC.out w1).1 h1).base).cell' hgx
          refine wp_region_w (S := C) (W := [11]) (by kernel_rfl) (hCx _ _ hCA (Ext.refl _).drew) (fun hS0 => ?_)
          refine w_pure 0 (v := ?tv1) rfl (by kernel_rfl) (by kernel_rfl) (by kernel_rfl) (fun _ _ _ h => h) (.inl ⟨rfl, ?ty1⟩) ?tr1
          case ty1 => (intro _ _; go_simp; try with_reducible rfl)
          case tr1 =>
          simp only [Act.put, List.setIfInBounds_toArray, List.set_cons_succ, List.set_cons_zero]
          refine w_pure 1 (v := ?tv2) rfl (by kernel_rfl) (by kernel_rfl) (by kernel_rfl) (fun _ _ _ h => h) (.inl ⟨rfl, ?ty2⟩) ?tr2
          case ty2 => (intro _ _; go_simp; try with_reducible rfl)
          case tr2 =>
          simp only [Act.put, List.setIfInBounds_toArray, List.set_cons_succ, List.set_cons_zero]
          refine w_pure 2 (v := ?tv3) rfl (by kernel_rfl) (by kernel_rfl) (by kernel_rfl) (fun _ _ _ h => h) (.inl ⟨rfl, ?ty3⟩) ?tr3
          case ty3 => (intro _ _; go_simp; try with_reducible rfl)
          case tr3 =>
          simp only [Act.put, List.setIfInBounds_toArray, List.set_cons_succ, List.set_cons_zero]
          refine w_pure 3 (v := ?tv4) rfl (by kernel_rfl) (by kernel_rfl) (by kernel_rfl) (fun _ _ _ h => h) (.inl ⟨rfl, ?ty4⟩) ?tr4
          case ty4 => (intro _ _; go_simp; try with_reducible rfl)
          case tr4 =>
          simp only [Act.put, List.setIfInBounds_toArray, List.set_cons_succ, List.set_cons_zero]
          refine w_take 4 (v := ?tv5) rfl (by kernel_rfl) (by kernel_rfl) (by kernel_rfl) (by kernel_rfl) (by kernel_rfl) (fun _ _ _ h => h) (.inl ⟨rfl, ?ty5⟩) hS0 ?tr5
          case ty5 => (intro wq hwq; have hcq := (hc8) wq hwq; go_simp; try with_reducible rfl)
          case tr5 =>
          simp only [Act.put, List.setIfInBounds_toArray, List.set_cons_succ, List.set_cons_zero]
          refine w_pure 5 (v := ?tv6) rfl (by kernel_rfl) (by kernel_rfl) (by kernel_rfl) (fun _ _ _ h => h) (.inl ⟨rfl, ?ty6⟩) ?tr6
          case ty6 => (intro _ _; go_simp; try with_reducible rfl)
          case tr6 =>
          simp only [Act.put, List.setIfInBounds_toArray, List.set_cons_succ, List.set_cons_zero]
          refine w_pure 6 (v := ?tv7) rfl (by kernel_rfl) (by kernel_rfl) (by kernel_rfl) (fun _ _ _ h => h) (.inl ⟨rfl, ?ty7⟩) ?tr7
          case ty7 => (intro _ _; go_simp; try with_reducible rfl)
          case tr7 =>
          simp only [Act.put, List.setIfInBounds_toArray, List.set_cons_succ, List.set_cons_zero]
          refine w_pure 7 (v := ?tv8) rfl (by kernel_rfl) (by kernel_rfl) (by kernel_rfl) (fun _ _ _ h => h) (.inl ⟨rfl, ?ty8⟩) ?tr8
          case ty8 => (intro _ _; go_simp; try with_reducible rfl)
          case tr8 =>
          simp only [Act.put, List.setIfInBounds_toArray, List.set_cons_succ, List.set_cons_zero]
          refine w_pure 8 (v := ?tv9) rfl (by kernel_rfl) (by kernel_rfl) (by kernel_rfl) (fun _ _ _ h => h) (.inl ⟨rfl, ?ty9⟩) ?tr9
          case ty9 => (intro _ _; go_simp; try with_reducible rfl)
          case tr9 =>
          simp only [Act.put, List.setIfInBounds_toArray, List.set_cons_succ, List.set_cons_zero]
          refine w_pure 9 (v := ?tv10) rfl (by kernel_rfl) (by kernel_rfl) (by kernel_rfl) (fun _ _ _ h => h) (.inl ⟨rfl, ?ty10⟩) ?tr10
          case ty10 => (intro _ _; go_simp; try with_reducible rfl)
          case tr10 =>
          simp only [Act.put, List.setIfInBounds_toArray, List.set_cons_succ, List.set_cons_zero]
          refine w_pure 10 (v := ?tv11) rfl (by kernel_rfl) (by kernel_rfl) (by kernel_rfl) (fun _ _ _ h => h) (.inl ⟨rfl, ?ty11⟩) ?tr11
          case ty11 => (intro _ _; go_simp; try with_reducible rfl)
          case tr11 =>
          simp only [Act.put, List.setIfInBounds_toArray, List.set_cons_succ, List.set_cons_zero]
          have EG := ((HCC.out _).1 hS0).base
          have PG := hid (P4.out.ext EG)
          have KG := hid (K4.out.ext EG)
          have RG := hid (R4.out.ext EG)
          have MG := hid (M4.out.ext EG)
          have E5 := hid (E4.out.ext EG)
          have O5 := hid (ownsRow_ext O4.out EG)
          have G0 := hid (F0.out.ext EG)
          have G1 := hid (F1.out.ext EG)
          have hb5 := Nat.le_trans hb4 EG.size
          clear hS0 hc8 EG P4 K4 R4 M4 E4 O4 F0 F1 hb4
          generalize w4.drew = wG at *
          have c8 := PG.out.cell' hgx
          have f8 := PG.out.frozen q8
          refine w_late (i := 11) (by kernel_rfl) rfl (by kernel_rfl) ?_
          intro Q' hQ
          go_wp2_with fail
          refine hQ _ _ trivial ?_
          clear hQ Q'
          refine w_done (by kernel_rfl) ?_ _
          have u6 : Upd wG g5 (wG.setCell ⟨g5, q8, none⟩ (.int .u8 (y8.toNat : Int))) := Upd.setCell _
          have b6 : Blk (wG.setCell ⟨g5, q8, none⟩ (.int .u8 (y8.toNat : Int))) g5 (mpL (lv.set q8 y8) pv) 62 := by rw [← mpL_set HLV.out q32]; exact PG.out.set q8 (u8v y8)
          have P6 := hid b6
          have K6 := hid (KG.out.upd u6 (by omega))
          have R6 := hid (RG.out.upd u6 (by omega))
          have M6 := hid (MG.out.upd u6 hp5.1 hp5.2)
          have E6 := hid (u6.ext E5.out (by omega))
          have hog := hid (own_block_ge O5.out)
          have O6 := hid (own_keep O5.out (fun z hz => u6.block z (by have := hog.out z hz; omega)))
          have hcO := hid (cells_upd G0.out u6 (fun b hb => (hka b hb).1))
          have hcT := hid (cells_upd G1.out u6 (fun b hb => (hqa b hb).1))
          have hb6 : B2 ≤ (wG.setCell ⟨g5, q8, none⟩ (.int .u8 (y8.toNat : Int))).heap.size := by rw [u6.size]; exact hb5
          have HLV2 := hid (show (lv.set q8 y8).length = 32 by rw [List.length_set]; exact HLV.out)
          clear u6 b6 PG KG RG MG E5 O5 G0 G1 hb5 c8 f8 hgx hor
          generalize wG.setCell ⟨g5, q8, none⟩ (.int .u8 (y8.toNat : Int)) = w6 at *
          generalize lv.set q8 y8 = lv2 at *
          have hne : (oth k os l).isEmpty = false := by
            cases ho : (oth k os l).isEmpty with
            | false => rfl
            | true => (have := L1.out; rw [List.isEmpty_iff.1 ho] at this; simp at this; omega)
          have hpn : pathK hs k os (l + 1) = pathK hs k os l ++ [partK hs (255 - l) (l + 1) (oth k os l)] := by
            show pathK hs k os l ++ (if (oth k os l).isEmpty then [] else [partK hs (255 - l) (l + 1) (oth k os l)]) = _
            rw [hne]; rfl
          have hpt := hid (fun w' (h1 : TMap w' p g hs) h2 => part_c p g hs (255 - l) (l + 1) (oth k os l) qs tn tc w' h1 L1.out (by omega) (by omega) (fun x hx => H32.out x (oth_mem hx)) (by omega) ((agr_pre k os l).side _) (Sorted32.side (HOS.out.sublist (agr_sub k os l)) l _) h2)
          have hsl2 := partK_len hs (255 - l) (l + 1) (oth k os l)
          generalize partK hs (255 - l) (l + 1) (oth k os l) = sb at *
          have HPN := hid hpn
          have HSB := hid hsl2
          have hpl : (pathK hs k os l).length ≤ 256 := by rw [path_len HMK.out hl256 l (Nat.le_refl _)]; exact Nat.le_trans (cntL_le _ _) hl256
          have hw1 : IntKind.i64.wrap ((l : Int) + 1) = ((l + 1 : Nat) : Int) := by rw [IntWalk.i64_in _ (by omega)]; omega
          have hlen2 : ∀ i, i < l + 1 → 1 < (agr k os i).length := fun i hi => by
            rcases Nat.lt_or_ge i l with h | h
            · exact HLEN.out i h
            · obtain rfl : i = l := by omega
              rw [HKN.out]; exact h1
          have HLEN2 := hid hlen2
          obtain ⟨l1', hl1⟩ : ∃ x, l + 1 = x := ⟨_, rfl⟩
          rw [hl1] at hw1 hpt HPN HLEN2 HMK2 L0 hcO
          clear hne hpn hsl2 hlen2 HMK HLEN HX8 HY8 HQ8 HR8 hw8 i0 i1 ht8 r80 r88 q32
          generalize hps : pathK hs k os l = ps at *
          have hl1b : l1' ≤ 256 := by omega
          have HL1' := hid hl1
          clear hps hl1 hl
          go_wp2_with fail
          obtain ⟨C, hC⟩ : ∃ C : World → Prop, C = Cls w6 w6 [] [] := ⟨_, rfl⟩
          have hC0 : ∀ w', C w' ↔ Cls w6 w6 [] [] w' := fun w' => by rw [hC]
          clear hC
          have HCC := hid hC0
          clear hC0
          have hCx : ∀ w w', C w → Ext w w' → C w' := fun w w' h1 h2 => (HCC.out w').2 (((HCC.out w).1 h1).ext h2)
          have hCA : C w6 := (HCC.out _).2 (Cls.no_room (Ext.refl w6) (Kept.none _))
          have hc32 : ∀ w1, C w1 → w1.cell? ⟨g5, 32, none⟩ = some pv := fun w1 h1 => (P6.out.ext ((HCC.out w1).1 h1).base).cell' (mpL_at HLV2.out pv)
          refine wp_region_w (S := C) (W := [8, 10]) (by kernel_rfl) (hCx _ _ hCA (Ext.refl _).drew) (fun hS0 => ?_)
          refine w_pure 0 (v := ?tv12) rfl (by kernel_rfl) (by kernel_rfl) (by kernel_rfl) (fun _ _ _ h => h) (.inl ⟨rfl, ?ty12⟩) ?tr12
          case ty12 => (intro _ _; go_simp; try with_reducible rfl)
          case tr12 =>
          simp only [Act.put, List.setIfInBounds_toArray, List.set_cons_succ, List.set_cons_zero]
          refine w_take 1 (v := ?tv13) rfl (by kernel_rfl) (by kernel_rfl) (by kernel_rfl) (by kernel_rfl) (by kernel_rfl) (fun _ _ _ h => h) (.inl ⟨rfl, ?ty13⟩) hS0 ?tr13
          case ty13 => (intro wq hwq; have hcq := (hc32) wq hwq; go_simp; try with_reducible rfl)
          case tr13 =>
          simp only [Act.put, List.setIfInBounds_toArray, List.set_cons_succ, List.set_cons_zero]
          refine w_pure 2 (v := ?tv14) rfl (by kernel_rfl) (by kernel_rfl) (by kernel_rfl) (fun _ _ _ h => h) (.inl ⟨rfl, ?ty14⟩) ?tr14
          case ty14 => (intro _ _; go_simp; try with_reducible rfl)
          case tr14 =>
          simp only [Act.put, List.setIfInBounds_toArray, List.set_cons_succ, List.set_cons_zero]
          refine w_pure 3 (v := ?tv15) rfl (by kernel_rfl) (by kernel_rfl) (by kernel_rfl) (fun _ _ _ h => h) (.inl ⟨rfl, ?ty15⟩) ?tr15
          case ty15 => (intro _ _; go_simp; try with_reducible rfl)
          case tr15 =>
          simp only [Act.put, List.setIfInBounds_toArray, List.set_cons_succ, List.set_cons_zero]
          refine w_pure 4 (v := ?tv16) rfl (by kernel_rfl) (by kernel_rfl) (by kernel_rfl) (fun _ _ _ h => h) (.inl ⟨rfl, ?ty16⟩) ?tr16
          case ty16 => (intro _ _; go_simp; try with_reducible rfl)
          case tr16 =>
          simp only [Act.put, List.setIfInBounds_toArray, List.set_cons_succ, List.set_cons_zero]
          refine w_pure 5 (v := ?tv17) rfl (by kernel_rfl) (by kernel_rfl) (by kernel_rfl) (fun _ _ _ h => h) (.inl ⟨rfl, ?ty17⟩) ?tr17
          case ty17 => (intro _ _; go_simp; try with_reducible rfl)
          case tr17 =>
          simp only [Act.put, List.setIfInBounds_toArray, List.set_cons_succ, List.set_cons_zero]
          generalize w6.drew = w7 at *
          refine w_one (i := 6) (by kernel_rfl) rfl (by kernel_rfl) hS0 ?_
          intro Q' hQ
          go_wp2_with fail
          refine (hpt.out w7 (M6.out.ext ((HCC.out w7).1 hS0).base) (hcT.out.ext ((HCC.out w7).1 hS0).base)).mono ?_
          rintro e w8 ⟨rfl, eq9⟩
          have hS9 := hCx _ _ hS0 eq9
          go_wp2_with fail
          refine hQ _ _ hS9 ?_
          clear hQ Q' hS0 eq9
          have hS0 := hS9
          clear hS9
          try dsimp only
          try simp only [Act.put, List.setIfInBounds_toArray, List.set_cons_succ, List.set_cons_zero]
          refine w_one (i := 7) (by kernel_rfl) rfl (by kernel_rfl) hS0 ?_
          intro Q' hQ
          have hS9 := hCx _ _ hS0 ((Ext.refl w8).alloc (.cells (sb.map u8v).toArray 32))
          have NB : Hid (Blk (w8.alloc (.cells (sb.map u8v).toArray 32)) w8.heap.size (sb.map u8v) 32) := hid (Blk.mk_alloc rfl rfl)
          go_wp2_with (refine wpl_buildRow rfl rfl rfl HSB.out ?_)
          refine hQ _ _ hS9 ?_
          clear hQ Q' hS0
          generalize w8.alloc (.cells (sb.map u8v).toArray 32) = w9 at *
          have EG := ((HCC.out w9).1 hS9).base
          have P9 := hid (P6.out.ext EG)
          have K9 := hid (K6.out.ext EG)
          have R9 := hid (R6.out.ext EG)
          have M9 := hid (M6.out.ext EG)
          have E9 := hid (E6.out.ext EG)
          have O9 := hid (ownsRow_ext O6.out EG)
          have hcO9 := hid (hcO.out.ext EG)
          have hb9 := Nat.le_trans hb6 EG.size
          have hog9 := hid (own_block_ge O9.out)
          clear hS9 hc32 EG P6 K6 R6 M6 E6 O6 hcO hcT hb6 hpt hog
          generalize w8.heap.size = gb at *
          refine w_late (i := 8) (by kernel_rfl) rfl (by kernel_rfl) ?_
          intro Q' hQ
          go_wp2_with (at_builtin; refine wpl_append_row rfl _ _ rfl B2 rfl rfl O9.out HSB.out NB.out (by omega) hb9 ?_)
          intro v10 w10 own10 g10
          obtain ⟨va, vc, rfl, _, _, _, _⟩ := own_sliceT (by decide) own10
          have P10 := hid (Blk.kept P9.out (g10.block g5 P9.out.lt (fun he => by have := hog9.out g5 he.symm; omega)))
          have K10 := hid (Blk.kept K9.out (g10.block w.heap.size K9.out.lt (fun he => by have := hog9.out _ he.symm; omega)))
          have R10 := hid (Blk.kept R9.out (g10.block (w.heap.size + 1) R9.out.lt (fun he => by have := hog9.out _ he.symm; omega)))
          have M10 := hid (M9.out.grown g10 (fun he => by have := hog9.out p he.symm; omega) (fun he => by have := hog9.out g he.symm; omega))
          have E10 := hid (E9.out.grown g10 (fun z hz => by have := hog9.out z hz; omega))
          have O10 := hid own10
          have hcO10 := hid (cells_grown hcO9.out g10 (fun b hb he => by have h9 := hog9.out b.block he.symm; have h8 := (hka b hb).2; omega))
          have hb10 := Nat.le_trans hb9 g10.size
          clear own10 g10 P9 K9 R9 M9 E9 O9 hcO9 hb9 NB hog9
          go_wp2_with fail
          refine hQ _ _ trivial ?_
          clear hQ Q'
          refine w_pure 9 (v := ?tv18) rfl (by kernel_rfl) (by kernel_rfl) (by kernel_rfl) (fun _ _ _ h => h) (.inl ⟨rfl, ?ty18⟩) ?tr18
          case ty18 => (intro _ _; go_simp; try with_reducible rfl)
          case tr18 =>
          simp only [Act.put, List.setIfInBounds_toArray, List.set_cons_succ, List.set_cons_zero]
          have c32 := P10.out.cell' (mpL_at HLV2.out pv)
          have f32 := P10.out.frozen 32
          refine w_late (i := 10) (by kernel_rfl) rfl (by kernel_rfl) ?_
          intro Q' hQ
          go_wp2_with fail
          refine hQ _ _ trivial ?_
          clear hQ Q'
          refine w_done (by kernel_rfl) ?_ _
          have u11 : Upd w10 g5 (w10.setCell ⟨g5, 32, none⟩ (.slice va (ps.length + 1) vc)) := Upd.setCell _
          have b11 : Blk (w10.setCell ⟨g5, 32, none⟩ (.slice va (ps.length + 1) vc)) g5 (mpL lv2 (.slice va (ps.length + 1) vc)) 62 := by rw [← mpL_put HLV2.out pv (.slice va (ps.length + 1) vc)]; exact P10.out.set 32 (.slice va (ps.length + 1) vc)
          have P11 := hid b11
          have K11 := hid (K10.out.upd u11 (by omega))
          have R11 := hid (R10.out.upd u11 (by omega))
          have M11 := hid (M10.out.upd u11 hp5.1 hp5.2)
          have E11 := hid (u11.ext E10.out (by omega))
          have hog11 := own_block_ge O10.out
          have O11 := hid (own_keep O10.out (fun z hz => u11.block z (by have := hog11 z hz; omega)))
          have C11 := hid (cells_upd hcO10.out u11 (fun b hb => (hka b hb).1))
          have hb11 : B2 ≤ (w10.setCell ⟨g5, 32, none⟩ (.slice va (ps.length + 1) vc)).heap.size := by rw [u11.size]; exact hb10
          clear u11 b11 P10 K10 R10 M10 E10 O10 hcO10 hb10 c32 f32 hog11
          generalize w10.setCell ⟨g5, 32, none⟩ (.slice va (ps.length + 1) vc) = w11 at *
          go_wp2_with fail
          go_roundw
          case rel => exact ⟨l1', lv2, _, ka, H, kc, rfl, by first | rfl | (have := HL1'.out; congr 1; omega), L0.out, by omega, hl1b, hka, C11.out, HLEN2.out, HMK2.out, HLV2.out, P11.out, by rw [HPN.out, List.length_append]; exact O11.out, K11.out, R11.out, M11.out, E11.out, hb11⟩
          case measure => have := HL1'.out; simp [intOf]; omega
        · have htz : tn = 0 := by omega
          subst htz
          have hoe : (oth k os l).isEmpty = true := by
            have := L1.out
            rw [List.length_eq_zero_iff.1 this]; rfl
          have HMK2 := hid (marks_skip HMK.out hoe)
          have hpn : pathK hs k os (l + 1) = pathK hs k os l := by
            show pathK hs k os l ++ (if (oth k os l).isEmpty then [] else [partK hs (255 - l) (l + 1) (oth k os l)]) = _
            rw [hoe]; simp
          have HPN := hid hpn
          have hw1 : IntKind.i64.wrap ((l : Int) + 1) = ((l + 1 : Nat) : Int) := by rw [IntWalk.i64_in _ (by omega)]; omega
          have hlen2 : ∀ i, i < l + 1 → 1 < (agr k os i).length := fun i hi => by
            rcases Nat.lt_or_ge i l with h | h
            · exact HLEN.out i h
            · obtain rfl : i = l := by omega
              rw [HKN.out]; exact h1
          have HLEN2 := hid hlen2
          obtain ⟨l1', hl1⟩ : ∃ x, l + 1 = x := ⟨_, rfl⟩
          rw [hl1] at hw1 HPN HLEN2 HMK2 L0 F0
          have hl1b : l1' ≤ 256 := by omega
          have HL1' := hid hl1
          clear hl1 hl hoe hpn hlen2 HMK HLEN
          go_wp2_with fail
          go_roundw
          case rel => exact ⟨l1', lv, pv, ka, H, kc, rfl, by first | rfl | (have := HL1'.out; congr 1; omega), L0.out, by omega, hl1b, hka, F0.out, HLEN2.out, HMK2.out, HLV.out, P4.out, by rw [HPN.out]; exact O4.out, K4.out, R4.out, M4.out, E4.out, hb4⟩
          case measure => have := HL1'.out; simp [intOf]; omega
      · have eo : agr k os (l + 1) = sideE l 1 (agr k os l) := by show sideE l (bitL k l) _ = _; rw [hb1]
        have et : oth k os l = sideE l 0 (agr k os l) := by show sideE l (1 - bitL k l) _ = _; rw [hb1]
        rw [← eo] at F1 L1
        rw [← et] at F0 L0
        rw [hb1]
        clear eo et hbl
        obtain ⟨on, hon⟩ : ∃ on, kn - H = on := ⟨_, rfl⟩
        obtain ⟨oc, hoc⟩ : ∃ oc, kc - H = oc := ⟨_, rfl⟩
        rw [hon] at L1 ⊢
        rw [hoc]
        have hocc : on ≤ oc := by omega
        have htt : H ≤ kc := by omega
        have htn1 : H ≤ 1000 := by omega
        clear hon hoc hHle
        obtain ⟨tn, htn⟩ : ∃ tn, H = tn := ⟨_, rfl⟩
        subst htn
        by_cases ht : 0 < H
        · have d3 : decide ((0 : Int) < (H : Int)) = true := decide_eq_true (by omega)
          have d4 : decide (0 < H) = true := decide_eq_true ht
          go_wp2_with fail
          obtain ⟨q8, hq8⟩ : ∃ q8, l / 8 = q8 := ⟨_, rfl⟩
          have hw8 : IntKind.i64.wrap ((l : Int) / 8) = (q8 : Int) := by rw [IntWalk.i64_in _ (by omega)]; omega
          have q32 : q8 < 32 := by omega
          have i0 : (0 : Int) ≤ (q8 : Int) := by omega
          have i1 : (q8 : Int) < 32 := by omega
          obtain ⟨r8, hr8⟩ : ∃ r8, l % 8 = r8 := ⟨_, rfl⟩
          have ht8 : (l : Int).tmod 8 = (r8 : Int) := by rw [Int.tmod_eq_emod_of_nonneg (by omega)]; omega
          have r80 : (0 : Int) ≤ (r8 : Int) := by omega
          have r88 : r8 < 8 := by omega
          have HR8 := hid hr8
          clear hr8
          obtain ⟨x8, hx8⟩ : ∃ x, lv[q8]? = some x := ⟨lv[q8]'(by rw [HLV.out]; exact q32), by simp⟩
          have hgx : (mpL lv pv)[q8]? = some (.int .u8 (x8.toNat : Int)) := by unfold mpL; rw [List.getElem?_append_left (by rw [List.length_map, HLV.out]; exact q32), List.getElem?_map, hx8]; rfl
          obtain ⟨y8, hy8⟩ : ∃ y : UInt8, y.toNat = x8.toNat ||| 2 ^ (7 - r8) := ⟨UInt8.ofNat (x8.toNat ||| 2 ^ (7 - r8)), by rw [UInt8.toNat_ofNat']; exact Nat.mod_eq_of_lt (or_lt ⟨x8.toNat, x8.toNat_lt⟩ ⟨r8, r88⟩)⟩
          have hor : bits .or .u8 (x8.toNat : Int) (128 / 2 ^ r8) = (y8.toNat : Int) := or_val r88 hy8
          have HMK2 := hid (marks_next (y := y8) HLV.out hl HMK.out (by rw [hq8]; exact hx8) (by rw [HR8.out]; exact hy8) (by cases ho : (oth k os l).isEmpty with | false => rfl | true => (have := L0.out; rw [List.isEmpty_iff.1 ho] at this; simp at this; omega)))
          rw [hq8] at HMK2
          have HX8 := hid hx8
          have HY8 := hid hy8
          have HQ8 := hid hq8
          clear hx8 hq8 hy8
          obtain ⟨C, hC⟩ : ∃ C : World → Prop, C = Cls w4 w4 [] [] := ⟨_, rfl⟩
          have hC0 : ∀ w', C w' ↔ Cls w4 w4 [] [] w' := fun w' => by rw [hC]
          clear hC
          have HCC := hid hC0
          clear hC0
          have hCx : ∀ w w', C w → Ext w w' → C w' := fun w w' h1 h2 => (HCC.out w').2 (((HCC.out w).1 h1).ext h2)
          have hCA : C w4 := (HCC.out _).2 (Cls.no_room (Ext.refl w4) (Kept.none _))
          have hc8 : ∀ w1, C w1 → w1.cell? ⟨g5, q8, none⟩ = some (.int .u8 (x8.toNat : Int)) := fun w1 h1 => (P4.out.ext ((HCC.out w1).1 h1).base).cell' hgx
          refine wp_region_w (S := C) (W := [11]) (by kernel_rfl) (hCx _ _ hCA (Ext.refl _).drew) (fun hS0 => ?_)
          refine w_pure 0 (v := ?tv19) rfl (by kernel_rfl) (by kernel_rfl) (by kernel_rfl) (fun _ _ _ h => h) (.inl ⟨rfl, ?ty19⟩) ?tr19
          case ty19 => (intro _ _; go_simp; try with_reducible rfl)
          case tr19 =>
          simp only [Act.put, List.setIfInBounds_toArray, List.set_cons_succ, List.set_cons_zero]
          refine w_pure 1 (v := ?tv20) rfl (by kernel_rfl) (by kernel_rfl) (by kernel_rfl) (fun _ _ _ h => h) (.inl ⟨rfl, ?ty20⟩) ?tr20
          case ty20 => (intro _ _; go_simp; try with_reducible rfl)
          case tr20 =>
          simp only [Act.put, List.setIfInBounds_toArray, List.set_cons_succ, List.set_cons_zero]
          refine w_pure 2 (v := ?tv21) rfl (by kernel_rfl) (by kernel_rfl) (by kernel_rfl) (fun _ _ _ h => h) (.inl ⟨rfl, ?ty21⟩) ?tr21
          case ty21 => (intro _ _; go_simp; try with_reducible rfl)
          case tr21 =>
          simp only [Act.put, List.setIfInBounds_toArray, List.set_cons_succ, List.set_cons_zero]
          refine w_pure 3 (v := ?tv22) rfl (by kernel_rfl) (by kernel_rfl) (by kernel_rfl) (fun _ _ _ h => h) (.inl ⟨rfl, ?ty22⟩) ?tr22
          case ty22 => (intro _ _; go_simp; try with_reducible rfl)
          case tr22 =>
          simp only [Act.put, List.setIfInBounds_toArray, List.set_cons_succ, List.set_cons_zero]
          refine w_take 4 (v := ?tv23) rfl (by kernel_rfl) (by kernel_rfl) (by kernel_rfl) (by kernel_rfl) (by kernel_rfl) (fun _ _ _ h => h) (.inl ⟨rfl, ?ty23⟩) hS0 ?tr23
          case ty23 => (intro wq hwq; have hcq := (hc8) wq hwq; go_simp; try with_reducible rfl)
          case tr23 =>
          simp only [Act.put, List.setIfInBounds_toArray, List.set_cons_succ, List.set_cons_zero]
          refine w_pure 5 (v := ?tv24) rfl (by kernel_rfl) (by kernel_rfl) (by kernel_rfl) (fun _ _ _ h => h) (.inl ⟨rfl, ?ty24⟩) ?tr24
          case ty24 => (intro _ _; go_simp; try with_reducible rfl)
          case tr24 =>
          simp only [Act.put, List.setIfInBounds_toArray, List.set_cons_succ, List.set_cons_zero]
          refine w_pure 6 (v := ?tv25) rfl (by kernel_rfl) (by kernel_rfl) (by kernel_rfl) (fun _ _ _ h => h) (.inl ⟨rfl, ?ty25⟩) ?tr25
          case ty25 => (intro _ _; go_simp; try with_reducible rfl)
          case tr25 =>
          simp only [Act.put, List.setIfInBounds_toArray, List.set_cons_succ, List.set_cons_zero]
          refine w_pure 7 (v := ?tv26) rfl (by kernel_rfl) (by kernel_rfl) (by kernel_rfl) (fun _ _ _ h => h) (.inl ⟨rfl, ?ty26⟩) ?tr26
          case ty26 => (intro _ _; go_simp; try with_reducible rfl)
          case tr26 =>
          simp only [Act.put, List.setIfInBounds_toArray, List.set_cons_succ, List.set_cons_zero]
          refine w_pure 8 (v := ?tv27) rfl (by kernel_rfl) (by kernel_rfl) (by kernel_rfl) (fun _ _ _ h => h) (.inl ⟨rfl, ?ty27⟩) ?tr27
          case ty27 => (intro _ _; go_simp; try with_reducible rfl)
          case tr27 =>
          simp only [Act.put, List.setIfInBounds_toArray, List.set_cons_succ, List.set_cons_zero]
          refine w_pure 9 (v := ?tv28) rfl (by kernel_rfl) (by kernel_rfl) (by kernel_rfl) (fun _ _ _ h => h) (.inl ⟨rfl, ?ty28⟩) ?tr28
          case ty28 => (intro _ _; go_simp; try with_reducible rfl)
          case tr28 =>
          simp only [Act.put, List.setIfInBounds_toArray, List.set_cons_succ, List.set_cons_zero]
          refine w_pure 10 (v := ?tv29) rfl (by kernel_rfl) (by kernel_rfl) (by kernel_rfl) (fun _ _ _ h => h) (.inl ⟨rfl, ?ty29⟩) ?tr29
          case ty29 => (intro _ _; go_simp; try with_reducible rfl)
          case tr29 =>
          simp only [Act.put, List.setIfInBounds_toArray, List.set_cons_succ, List.set_cons_zero]
          have EG := ((HCC.out _).1 hS0).base
          have PG := hid (P4.out.ext EG)
          have KG := hid (K4.out.ext EG)
          have RG := hid (R4.out.ext EG)
          have MG := hid (M4.out.ext EG)
          have E5 := hid (E4.out.ext EG)
          have O5 := hid (ownsRow_ext O4.out EG)
          have G0 := hid (F0.out.ext EG)
          have G1 := hid (F1.out.ext EG)
          have hb5 := Nat.le_trans hb4 EG.size
          clear hS0 hc8 EG P4 K4 R4 M4 E4 O4 F0 F1 hb4
          generalize w4.drew = wG at *
          have c8 := PG.out.cell' hgx
          have f8 := PG.out.frozen q8
          refine w_late (i := 11) (by kernel_rfl) rfl (by kernel_rfl) ?_
          intro Q' hQ
          go_wp2_with fail
          refine hQ _ _ trivial ?_
          clear hQ Q'
          refine w_done (by kernel_rfl) ?_ _
          have u6 : Upd wG g5 (wG.setCell ⟨g5, q8, none⟩ (.int .u8 (y8.toNat : Int))) := Upd.setCell _
          have b6 : Blk (wG.setCell ⟨g5, q8, none⟩ (.int .u8 (y8.toNat : Int))) g5 (mpL (lv.set q8 y8) pv) 62 := by rw [← mpL_set HLV.out q32]; exact PG.out.set q8 (u8v y8)
          have P6 := hid b6
          have K6 := hid (KG.out.upd u6 (by omega))
          have R6 := hid (RG.out.upd u6 (by omega))
          have M6 := hid (MG.out.upd u6 hp5.1 hp5.2)
          have E6 := hid (u6.ext E5.out (by omega))
          have hog := hid (own_block_ge O5.out)
          have O6 := hid (own_keep O5.out (fun z hz => u6.block z (by have := hog.out z hz; omega)))
          have hcO := hid (cells_upd G1.out u6 (fun b hb => (hqa b hb).1))
          have hcT := hid (cells_upd G0.out u6 (fun b hb => (hka b hb).1))
          have hb6 : B2 ≤ (wG.setCell ⟨g5, q8, none⟩ (.int .u8 (y8.toNat : Int))).heap.size := by rw [u6.size]; exact hb5
          have HLV2 := hid (show (lv.set q8 y8).length = 32 by rw [List.length_set]; exact HLV.out)
          clear u6 b6 PG KG RG MG E5 O5 G0 G1 hb5 c8 f8 hgx hor
          generalize wG.setCell ⟨g5, q8, none⟩ (.int .u8 (y8.toNat : Int)) = w6 at *
          generalize lv.set q8 y8 = lv2 at *
          have hne : (oth k os l).isEmpty = false := by
            cases ho : (oth k os l).isEmpty with
            | false => rfl
            | true => (have := L0.out; rw [List.isEmpty_iff.1 ho] at this; simp at this; omega)
          have hpn : pathK hs k os (l + 1) = pathK hs k os l ++ [partK hs (255 - l) (l + 1) (oth k os l)] := by
            show pathK hs k os l ++ (if (oth k os l).isEmpty then [] else [partK hs (255 - l) (l + 1) (oth k os l)]) = _
            rw [hne]; rfl
          have hpt := hid (fun w' (h1 : TMap w' p g hs) h2 => part_c p g hs (255 - l) (l + 1) (oth k os l) ka H kc w' h1 L0.out (by omega) (by omega) (fun x hx => H32.out x (oth_mem hx)) (by omega) ((agr_pre k os l).side _) (Sorted32.side (HOS.out.sublist (agr_sub k os l)) l _) h2)
          have hsl2 := partK_len hs (255 - l) (l + 1) (oth k os l)
          generalize partK hs (255 - l) (l + 1) (oth k os l) = sb at *
          have HPN := hid hpn
          have HSB := hid hsl2
          have hpl : (pathK hs k os l).length ≤ 256 := by rw [path_len HMK.out hl256 l (Nat.le_refl _)]; exact Nat.le_trans (cntL_le _ _) hl256
          have hw1 : IntKind.i64.wrap ((l : Int) + 1) = ((l + 1 : Nat) : Int) := by rw [IntWalk.i64_in _ (by omega)]; omega
          have hlen2 : ∀ i, i < l + 1 → 1 < (agr k os i).length := fun i hi => by
            rcases Nat.lt_or_ge i l with h | h
            · exact HLEN.out i h
            · obtain rfl : i = l := by omega
              rw [HKN.out]; exact h1
          have HLEN2 := hid hlen2
          obtain ⟨l1', hl1⟩ : ∃ x, l + 1 = x := ⟨_, rfl⟩
          rw [hl1] at hw1 hpt HPN HLEN2 HMK2 L1 hcO
          clear hne hpn hsl2 hlen2 HMK HLEN HX8 HY8 HQ8 HR8 hw8 i0 i1 ht8 r80 r88 q32
          generalize hps : pathK hs k os l = ps at *
          have hl1b : l1' ≤ 256 := by omega
          have HL1' := hid hl1
          clear hps hl1 hl
          go_wp2_with fail
          obtain ⟨C, hC⟩ : ∃ C : World → Prop, C = Cls w6 w6 [] [] := ⟨_, rfl⟩
          have hC0 : ∀ w', C w' ↔ Cls w6 w6 [] [] w' := fun w' => by rw [hC]
          clear hC
          have HCC := hid hC0
          clear hC0
          have hCx : ∀ w w', C w → Ext w w' → C w' := fun w w' h1 h2 => (HCC.out w').2 (((HCC.out w).1 h1).ext h2)
          have hCA : C w6 := (HCC.out _).2 (Cls.no_room (Ext.refl w6) (Kept.none _))
          have hc32 : ∀ w1, C w1 → w1.cell? ⟨g5, 32, none⟩ = some pv := fun w1 h1 => (P6.out.ext ((HCC.out w1).1 h1).base).cell' (mpL_at HLV2.out pv)
          refine wp_region_w (S := C) (W := [8, 10]) (by kernel_rfl) (hCx _ _ hCA (Ext.refl _).drew) (fun hS0 => ?_)
          refine w_pure 0 (v := ?tv30) rfl (by kernel_rfl) (by kernel_rfl) (by kernel_rfl) (fun _ _ _ h => h) (.inl ⟨rfl, ?ty30⟩) ?tr30
          case ty30 => (intro _ _; go_simp; try with_reducible rfl)
          case tr30 =>
          simp only [Act.put, List.setIfInBounds_toArray, List.set_cons_succ, List.set_cons_zero]
          refine w_take 1 (v := ?tv31) rfl (by kernel_rfl) (by kernel_rfl) (by kernel_rfl) (by kernel_rfl) (by kernel_rfl) (fun _ _ _ h => h) (.inl ⟨rfl, ?ty31⟩) hS0 ?tr31
          case ty31 => (intro wq hwq; have hcq := (hc32) wq hwq; go_simp; try with_reducible rfl)
          case tr31 =>
          simp only [Act.put, List.setIfInBounds_toArray, List.set_cons_succ, List.set_cons_zero]
          refine w_pure 2 (v := ?tv32) rfl (by kernel_rfl) (by kernel_rfl) (by kernel_rfl) (fun _ _ _ h => h) (.inl ⟨rfl, ?ty32⟩) ?tr32
          case ty32 => (intro _ _; go_simp; try with_reducible rfl)
          case tr32 =>
          simp only [Act.put, List.setIfInBounds_toArray, List.set_cons_succ, List.set_cons_zero]
          refine w_pure 3 (v := ?tv33) rfl (by kernel_rfl) (by kernel_rfl) (by kernel_rfl) (fun _ _ _ h => h) (.inl ⟨rfl, ?ty33⟩) ?tr33
          case ty33 => (intro _ _; go_simp; try with_reducible rfl)
          case tr33 =>
          simp only [Act.put, List.setIfInBounds_toArray, List.set_cons_succ, List.set_cons_zero]
          refine w_pure 4 (v := ?tv34) rfl (by kernel_rfl) (by kernel_rfl) (by kernel_rfl) (fun _ _ _ h => h) (.inl ⟨rfl, ?ty34⟩) ?tr34
          case ty34 => (intro _ _; go_simp; try with_reducible rfl)
          case tr34 =>
          simp only [Act.put, List.setIfInBounds_toArray, List.set_cons_succ, List.set_cons_zero]
          refine w_pure 5 (v := ?tv35) rfl (by kernel_rfl) (by kernel_rfl) (by kernel_rfl) (fun _ _ _ h => h) (.inl ⟨rfl, ?ty35⟩) ?tr35
          case ty35 => (intro _ _; go_simp; try with_reducible rfl)
          case tr35 =>
          simp only [Act.put, List.setIfInBounds_toArray, List.set_cons_succ, List.set_cons_zero]
          generalize w6.drew = w7 at *
          refine w_one (i := 6) (by kernel_rfl) rfl (by kernel_rfl) hS0 ?_
          intro Q' hQ
          go_wp2_with fail
          refine (hpt.out w7 (M6.out.ext ((HCC.out w7).1 hS0).base) (hcT.out.ext ((HCC.out w7).1 hS0).base)).mono ?_
          rintro e w8 ⟨rfl, eq9⟩
          have hS9 := hCx _ _ hS0 eq9
          go_wp2_with fail
          refine hQ _ _ hS9 ?_
          clear hQ Q' hS0 eq9
          have hS0 := hS9
          clear hS9
          try dsimp only
          try simp only [Act.put, List.setIfInBounds_toArray, List.set_cons_succ, List.set_cons_zero]
          refine w_one (i := 7) (by kernel_rfl) rfl (by kernel_rfl) hS0 ?_
          intro Q' hQ
          have hS9 := hCx _ _ hS0 ((Ext.refl w8).alloc (.cells (sb.map u8v).toArray 32))
          have NB : Hid (Blk (w8.alloc (.cells (sb.map u8v).toArray 32)) w8.heap.size (sb.map u8v) 32) := hid (Blk.mk_alloc rfl rfl)
          go_wp2_with (refine wpl_buildRow rfl rfl rfl HSB.out ?_)
          refine hQ _ _ hS9 ?_
          clear hQ Q' hS0
          generalize w8.alloc (.cells (sb.map u8v).toArray 32) = w9 at *
          have EG := ((HCC.out w9).1 hS9).base
          have P9 := hid (P6.out.ext EG)
          have K9 := hid (K6.out.ext EG)
          have R9 := hid (R6.out.ext EG)
          have M9 := hid (M6.out.ext EG)
          have E9 := hid (E6.out.ext EG)
          have O9 := hid (ownsRow_ext O6.out EG)
          have hcO9 := hid (hcO.out.ext EG)
          have hb9 := Nat.le_trans hb6 EG.size
          have hog9 := hid (own_block_ge O9.out)
          clear hS9 hc32 EG P6 K6 R6 M6 E6 O6 hcO hcT hb6 hpt hog
          generalize w8.heap.size = gb at *
          refine w_late (i := 8) (by kernel_rfl) rfl (by kernel_rfl) ?_
          intro Q' hQ
          go_wp2_with (at_builtin; refine wpl_append_row rfl _ _ rfl B2 rfl rfl O9.out HSB.out NB.out (by omega) hb9 ?_)
          intro v10 w10 own10 g10
          obtain ⟨va, vc, rfl, _, _, _, _⟩ := own_sliceT (by decide) own10
          have P10 := hid (Blk.kept P9.out (g10.block g5 P9.out.lt (fun he => by have := hog9.out g5 he.symm; omega)))
          have K10 := hid (Blk.kept K9.out (g10.block w.heap.size K9.out.lt (fun he => by have := hog9.out _ he.symm; omega)))
          have R10 := hid (Blk.kept R9.out (g10.block (w.heap.size + 1) R9.out.lt (fun he => by have := hog9.out _ he.symm; omega)))
          have M10 := hid (M9.out.grown g10 (fun he => by have := hog9.out p he.symm; omega) (fun he => by have := hog9.out g he.symm; omega))
          have E10 := hid (E9.out.grown g10 (fun z hz => by have := hog9.out z hz; omega))
          have O10 := hid own10
          have hcO10 := hid (cells_grown hcO9.out g10 (fun b hb he => by have h9 := hog9.out b.block he.symm; have h8 := (hqa b hb).2; omega))
          have hb10 := Nat.le_trans hb9 g10.size
          clear own10 g10 P9 K9 R9 M9 E9 O9 hcO9 hb9 NB hog9
          go_wp2_with fail
          refine hQ _ _ trivial ?_
          clear hQ Q'
          refine w_pure 9 (v := ?tv36) rfl (by kernel_rfl) (by kernel_rfl) (by kernel_rfl) (fun _ _ _ h => h) (.inl ⟨rfl, ?ty36⟩) ?tr36
          case ty36 => (intro _ _; go_simp; try with_reducible rfl)
          case tr36 =>
          simp only [Act.put, List.setIfInBounds_toArray, List.set_cons_succ, List.set_cons_zero]
          have c32 := P10.out.cell' (mpL_at HLV2.out pv)
          have f32 := P10.out.frozen 32
          refine w_late (i := 10) (by kernel_rfl) rfl (by kernel_rfl) ?_
          intro Q' hQ
          go_wp2_with fail
          refine hQ _ _ trivial ?_
          clear hQ Q'
          refine w_done (by kernel_rfl) ?_ _
          have u11 : Upd w10 g5 (w10.setCell ⟨g5, 32, none⟩ (.slice va (ps.length + 1) vc)) := Upd.setCell _
          have b11 : Blk (w10.setCell ⟨g5, 32, none⟩ (.slice va (ps.length + 1) vc)) g5 (mpL lv2 (.slice va (ps.length + 1) vc)) 62 := by rw [← mpL_put HLV2.out pv (.slice va (ps.length + 1) vc)]; exact P10.out.set 32 (.slice va (ps.length + 1) vc)
          have P11 := hid b11
          have K11 := hid (K10.out.upd u11 (by omega))
          have R11 := hid (R10.out.upd u11 (by omega))
          have M11 := hid (M10.out.upd u11 hp5.1 hp5.2)
          have E11 := hid (u11.ext E10.out (by omega))
          have hog11 := own_block_ge O10.out
          have O11 := hid (own_keep O10.out (fun z hz => u11.block z (by have := hog11 z hz; omega)))
          have C11 := hid (cells_upd hcO10.out u11 (fun b hb => (hqa b hb).1))
          have hb11 : B2 ≤ (w10.setCell ⟨g5, 32, none⟩ (.slice va (ps.length + 1) vc)).heap.size := by rw [u11.size]; exact hb10
          clear u11 b11 P10 K10 R10 M10 E10 O10 hcO10 hb10 c32 f32 hog11
          generalize w10.setCell ⟨g5, 32, none⟩ (.slice va (ps.length + 1) vc) = w11 at *
          go_wp2_with fail
          go_roundw
          case rel => exact ⟨l1', lv2, _, qs, on, oc, rfl, by first | rfl | (have := HL1'.out; congr 1; omega), L1.out, by omega, hl1b, hqa, C11.out, HLEN2.out, HMK2.out, HLV2.out, P11.out, by rw [HPN.out, List.length_append]; exact O11.out, K11.out, R11.out, M11.out, E11.out, hb11⟩
          case measure => have := HL1'.out; simp [intOf]; omega
        · have htz : H = 0 := by omega
          subst htz
          have hoe : (oth k os l).isEmpty = true := by
            have := L0.out
            rw [List.length_eq_zero_iff.1 this]; rfl
          have HMK2 := hid (marks_skip HMK.out hoe)
          have hpn : pathK hs k os (l + 1) = pathK hs k os l := by
            show pathK hs k os l ++ (if (oth k os l).isEmpty then [] else [partK hs (255 - l) (l + 1) (oth k os l)]) = _
            rw [hoe]; simp
          have HPN := hid hpn
          have hw1 : IntKind.i64.wrap ((l : Int) + 1) = ((l + 1 : Nat) : Int) := by rw [IntWalk.i64_in _ (by omega)]; omega
          have hlen2 : ∀ i, i < l + 1 → 1 < (agr k os i).length := fun i hi => by
            rcases Nat.lt_or_ge i l with h | h
            · exact HLEN.out i h
            · obtain rfl : i = l := by omega
              rw [HKN.out]; exact h1
          have HLEN2 := hid hlen2
          obtain ⟨l1', hl1⟩ : ∃ x, l + 1 = x := ⟨_, rfl⟩
          rw [hl1] at hw1 HPN HLEN2 HMK2 L1 F1
          have hl1b : l1' ≤ 256 := by omega
          have HL1' := hid hl1
          clear hl1 hl hoe hpn hlen2 HMK HLEN
          go_wp2_with fail
          go_roundw
          case rel => exact ⟨l1', lv, pv, qs, on, oc, rfl, by first | rfl | (have := HL1'.out; congr 1; omega), L1.out, by omega, hl1b, hqa, F1.out, HLEN2.out, HMK2.out, HLV.out, P4.out, by rw [HPN.out]; exact O4.out, K4.out, R4.out, M4.out, E4.out, hb4⟩
          case measure => have := HL1'.out; simp [intOf]; omega
    · have hdone : kn ≤ 1 := by omega
      have d1 : decide ((1 : Int) < (kn : Int)) = false := decide_eq_false (by omega)
      have d2 : decide (1 < kn) = false := decide_eq_false (by omega)
      have hpl : (pathK hs k os l).length ≤ 256 := by rw [path_len HMK.out hl256 l (Nat.le_refl _)]; exact Nat.le_trans (cntL_le _ _) hl256
      have h32p : All32 (pathK hs k os l) := path_32 hs k os l
      have H32P := hid h32p
      have hproof := hid (fun (ls : List (List UInt8)) (he : ls = pathK hs k os l ++ endK hs k (agr k os l)) => (⟨os, l, HOP.out, hl256, HLEN.out, by rw [HKN.out]; exact hdone, HMK.out, he⟩ : ∃ os D, os.Perm (hs.map Prod.fst) ∧ D ≤ 256 ∧ (∀ i, i < D → 1 < (agr k os i).length) ∧ (agr k os D).length ≤ 1 ∧ Marks k os lv D ∧ ls = pathK hs k os D ++ endK hs k (agr k os D)))
      clear HLEN HMK h32p
      rcases (by omega : kn = 0 ∨ kn = 1) with rfl | rfl
      · have hA : agr k os l = [] := List.length_eq_zero_iff.1 HKN.out
        rw [hA] at hproof
        have hpf := hid (hproof.out (pathK hs k os l) (by show _ = _ ++ []; rw [List.append_nil]))
        have e10 : (((0 : Nat) : Int) == 1) = false := by decide
        have e11 : ((0 : Nat) == 1) = false := by decide
        clear hA hproof
        generalize pathK hs k os l = ps at *
        obtain ⟨va, vc, rfl, _, _, _, hcv⟩ := own_sliceT (by decide) OR.out
        have HCV := hid hcv
        have hvo := own_block_ge OR.out
        clear hcv OR
        go_wp2_with fail
        obtain ⟨C, hC⟩ : ∃ C : World → Prop, C = Cls wr wr [] [] := ⟨_, rfl⟩
        have hC0 : ∀ w', C w' ↔ Cls wr wr [] [] w' := fun w' => by rw [hC]
        clear hC
        have HCC := hid hC0
        clear hC0
        have hCx : ∀ w w', C w → Ext w w' → C w' := fun w w' h1 h2 => (HCC.out w').2 (((HCC.out w).1 h1).ext h2)
        have hCA : C wr := (HCC.out _).2 (Cls.no_room (Ext.refl wr) (Kept.none _))
        refine wp_region_held_drew (S := C) (by kernel_rfl) (hCx _ _ hCA (Ext.refl _).drew) (fun hS0 => ?_)
        refine held_take 0 (v := ?tv37) rfl (by kernel_rfl) (by kernel_rfl) (by kernel_rfl) (fun _ _ _ h => h) (.inl ⟨rfl, ?ty37⟩) hS0 ?tr37
        case ty37 => (intro _ _; go_simp; try with_reducible rfl)
        case tr37 =>
        simp only [Act.put, List.setIfInBounds_toArray, List.set_cons_succ, List.set_cons_zero]
        refine held_take 1 (v := ?tv38) rfl (by kernel_rfl) (by kernel_rfl) (by kernel_rfl) (fun _ _ _ h => h) (.inl ⟨rfl, ?ty38⟩) hS0 ?tr38
        case ty38 => (intro _ _; go_simp; try with_reducible rfl)
        case tr38 =>
        simp only [Act.put, List.setIfInBounds_toArray, List.set_cons_succ, List.set_cons_zero]
        refine held_take 2 (v := ?tv39) rfl (by kernel_rfl) (by kernel_rfl) (by kernel_rfl) (fun _ _ _ h => h) (.inl ⟨rfl, ?ty39⟩) hS0 ?tr39
        case ty39 => (intro _ _; go_simp; try with_reducible rfl)
        case tr39 =>
        simp only [Act.put, List.setIfInBounds_toArray, List.set_cons_succ, List.set_cons_zero]
        refine held_take 3 (v := ?tv40) rfl (by kernel_rfl) (by kernel_rfl) (by kernel_rfl) (fun _ _ _ h => h) (.inl ⟨rfl, ?ty40⟩) hS0 ?tr40
        case ty40 => (intro _ _; go_simp; try with_reducible rfl)
        case tr40 =>
        simp only [Act.put, List.setIfInBounds_toArray, List.set_cons_succ, List.set_cons_zero]
        refine held_take 4 (v := undef) rfl (by kernel_rfl) (by kernel_rfl) (by kernel_rfl) (fun _ _ _ h => h) (.inr ⟨rfl, rfl⟩) hS0 ?_
        simp only [Act.put, List.setIfInBounds_toArray, List.set_cons_succ, List.set_cons_zero]
        refine held_take 5 (v := undef) rfl (by kernel_rfl) (by kernel_rfl) (by kernel_rfl) (fun _ _ _ h => h) (.inr ⟨rfl, rfl⟩) hS0 ?_
        simp only [Act.put, List.setIfInBounds_toArray, List.set_cons_succ, List.set_cons_zero]
        refine held_take 6 (v := undef) rfl (by kernel_rfl) (by kernel_rfl) (by kernel_rfl) (fun _ _ _ h => h) (.inr ⟨rfl, rfl⟩) hS0 ?_
        simp only [Act.put, List.setIfInBounds_toArray, List.set_cons_succ, List.set_cons_zero]
        refine held_take 7 (v := undef) rfl (by kernel_rfl) (by kernel_rfl) (by kernel_rfl) (fun _ _ _ h => h) (.inr ⟨rfl, rfl⟩) hS0 ?_
        simp only [Act.put, List.setIfInBounds_toArray, List.set_cons_succ, List.set_cons_zero]
        refine held_take 8 (v := undef) rfl (by kernel_rfl) (by kernel_rfl) (by kernel_rfl) (fun _ _ _ h => h) (.inr ⟨rfl, rfl⟩) hS0 ?_
        simp only [Act.put, List.setIfInBounds_toArray, List.set_cons_succ, List.set_cons_zero]
        refine held_take 9 (v := ?tv41) rfl (by kernel_rfl) (by kernel_rfl) (by kernel_rfl) (fun _ _ _ h => h) (.inl ⟨rfl, ?ty41⟩) hS0 ?tr41
        case ty41 => (intro _ _; go_simp; try with_reducible rfl)
        case tr41 =>
        simp only [Act.put, List.setIfInBounds_toArray, List.set_cons_succ, List.set_cons_zero]
        refine wpAnyH_done (by kernel_rfl) ?_ _
        have EG := ((HCC.out _).1 hS0).base
        have PG := hid (PR.out.ext EG)
        have RG := hid (RR.out.ext EG)
        have E5 := hid (ER.out.ext EG)
        have CV := hid (HCV.out.ext EG)
        clear hS0 hCx hCA HCC C EG PR RR ER HCV KR MR CR
        generalize wr.drew = wG at *
        have hz33 := hid (mpL_length zero32_l (.slice none 0 0))
        have hv33 := hid (mpL_length HLV.out (.slice va ps.length vc))
        have ov := mpL_one lv (.slice va ps.length vc) rfl
        have hgt : w.heap.size + 1 ≠ g5 := by omega
        go_wp2_with (first | (refine wpl_loadw rfl 62 (.tmp 5) rfl rfl PG.out agg_mproof hv33.out ?_) | (refine wpl_storew rfl _ (.tmp 4) _ rfl rfl rfl RG.out agg_mproof hz33.out hv33.out ov ?_))
        intro w6 b6 u6
        go_wp2_with fail
        exact ret_row rfl rfl b6 agg_mproof hv33.out rfl ⟨lv, ps, va, vc, rfl, HLV.out, H32P.out, cells_upd CV.out u6 (fun b hb => by subst hb; have h9 := hvo b.block rfl; omega), ⟨hpf.out⟩, by omega, u6.ext E5.out (by omega)⟩
      · obtain ⟨o, hA⟩ : ∃ o, agr k os l = [o] := List.length_eq_one_iff.1 HKN.out
        have hom : o ∈ os := (agr_sub k os l).mem (by rw [hA]; simp)
        have ho32 := H32.out o hom
        obtain ⟨A, rfl, hca⟩ : ∃ A, ka = some A ∧ CellsAt wr (A.add (0 * 32)) (o.map u8v) := by
          have hcr := CR.out
          rw [hA] at hcr
          cases ka with
          | none => rcases hcr with h | ⟨_, _, h, _⟩
                    · have := rows_length (All32.one ho32); rw [h] at this; simp at this
                    · cases h
          | some A => exact ⟨A, rfl, hcr.rowAt (All32.one ho32) rfl⟩
        have HCA := hid hca
        have HO32 := hid ho32
        have HOV := hid (show (o.map u8v).length = 32 by rw [List.length_map]; exact ho32)
        have HNE := hid (fun w => neq_arr Try.underlying32 o k ho32 HK.out w)
        rw [hA] at hproof
        have e10 : (((1 : Nat) : Int) == 1) = true := by decide
        have e11 : ((1 : Nat) == 1) = true := by decide
        have hz33 := hid (mpL_length zero32_l (.slice none 0 0))
        have hog := hid (own_block_ge OR.out)
        have hgt : w.heap.size + 1 ≠ g5 := by omega
        clear hca hA hom CR hka
        by_cases hok : o = k
        · have hpf := hid (hproof.out (pathK hs k os l) (by rw [show endK hs k [o] = [] from if_pos hok, List.append_nil]))
          have hb0 : (o == k) = true := by simpa using hok
          rw [hb0] at HNE
          clear hok hproof hb0 HKN
          generalize pathK hs k os l = ps at *
          obtain ⟨va, vc, rfl, _, _, _, hcv⟩ := own_sliceT (by decide) OR.out
          have HCV := hid hcv
          have hvo := own_block_ge OR.out
          clear hcv OR hog
          go_wp2_with fail
          obtain ⟨C, hC⟩ : ∃ C : World → Prop, C = Cls wr wr [] [] := ⟨_, rfl⟩
          have hC0 : ∀ w', C w' ↔ Cls wr wr [] [] w' := fun w' => by rw [hC]
          clear hC
          have HCC := hid hC0
          clear hC0
          have hCx : ∀ w w', C w → Ext w w' → C w' := fun w w' h1 h2 => (HCC.out w').2 (((HCC.out w).1 h1).ext h2)
          have hCA : C wr := (HCC.out _).2 (Cls.no_room (Ext.refl wr) (Kept.none _))
          refine wp_region_held_drew (S := C) (by kernel_rfl) (hCx _ _ hCA (Ext.refl _).drew) (fun hS0 => ?_)
          refine held_take 0 (v := ?tv42) rfl (by kernel_rfl) (by kernel_rfl) (by kernel_rfl) (fun _ _ _ h => h) (.inl ⟨rfl, ?ty42⟩) hS0 ?tr42
          case ty42 => (intro _ _; go_simp; try with_reducible rfl)
          case tr42 =>
          simp only [Act.put, List.setIfInBounds_toArray, List.set_cons_succ, List.set_cons_zero]
          refine held_take 1 (v := ?tv43) rfl (by kernel_rfl) (by kernel_rfl) (by kernel_rfl) (fun _ _ _ h => h) (.inl ⟨rfl, ?ty43⟩) hS0 ?tr43
          case ty43 => (intro _ _; go_simp; try with_reducible rfl)
          case tr43 =>
          simp only [Act.put, List.setIfInBounds_toArray, List.set_cons_succ, List.set_cons_zero]
          refine held_take 2 (v := ?tv44) rfl (by kernel_rfl) (by kernel_rfl) (by kernel_rfl) (fun _ _ _ h => h) (.inl ⟨rfl, ?ty44⟩) hS0 ?tr44
          case ty44 => (intro _ _; go_simp; try with_reducible rfl)
          case tr44 =>
          simp only [Act.put, List.setIfInBounds_toArray, List.set_cons_succ, List.set_cons_zero]
          refine held_take 3 (v := ?tv45) rfl (by kernel_rfl) (by kernel_rfl) (by kernel_rfl) (fun _ _ _ h => h) (.inl ⟨rfl, ?ty45⟩) hS0 ?tr45
          case ty45 => (intro _ _; go_simp; try with_reducible rfl)
          case tr45 =>
          simp only [Act.put, List.setIfInBounds_toArray, List.set_cons_succ, List.set_cons_zero]
          refine held_take 4 (v := ?tv46) rfl (by kernel_rfl) (by kernel_rfl) (by kernel_rfl) (fun _ _ _ h => h) (.inl ⟨rfl, ?ty46⟩) hS0 ?tr46
          case ty46 => (intro _ _; go_simp; try with_reducible rfl)
          case tr46 =>
          simp only [Act.put, List.setIfInBounds_toArray, List.set_cons_succ, List.set_cons_zero]
          refine held_take 5 (v := _) rfl (by kernel_rfl) (by kernel_rfl) (by kernel_rfl) (fun _ _ _ h => h) (yieldsI_run rfl (fun w1 _ => exec_index (i := 0) rfl rfl rfl Try.underlying29 size_apisum (by omega) w1)) hS0 ?_
          simp only [Act.put, List.setIfInBounds_toArray, List.set_cons_succ, List.set_cons_zero]
          refine held_take 6 (v := _) rfl (by kernel_rfl) (by kernel_rfl) (by kernel_rfl) (fun _ _ _ h => h) (yieldsI_run rfl (fun w1 h => exec_load_at rfl rfl (HCA.out.ext ((HCC.out w1).1 h).base) agg_apisum HOV.out)) hS0 ?_
          simp only [Act.put, List.setIfInBounds_toArray, List.set_cons_succ, List.set_cons_zero]
          refine held_take 7 (v := _) rfl (by kernel_rfl) (by kernel_rfl) (by kernel_rfl) (fun _ _ _ h => h) (yieldsI_loadw rfl 32 _ rfl rfl (fun w1 h => KR.out.ext ((HCC.out w1).1 h).base) agg_apisum HKV.out) hS0 ?_
          simp only [Act.put, List.setIfInBounds_toArray, List.set_cons_succ, List.set_cons_zero]
          refine held_take 8 (v := _) rfl (by kernel_rfl) (by kernel_rfl) (by kernel_rfl) (fun _ _ _ h => h) (yieldsI_run rfl (fun w1 _ => exec_cmp rfl rfl rfl guard_sum HNE.out w1)) hS0 ?_
          simp only [Act.put, List.setIfInBounds_toArray, List.set_cons_succ, List.set_cons_zero]
          refine held_take 9 (v := ?tv47) rfl (by kernel_rfl) (by kernel_rfl) (by kernel_rfl) (fun _ _ _ h => h) (.inl ⟨rfl, ?ty47⟩) hS0 ?tr47
          case ty47 => (intro _ _; go_simp; try with_reducible rfl)
          case tr47 =>
          simp only [Act.put, List.setIfInBounds_toArray, List.set_cons_succ, List.set_cons_zero]
          refine wpAnyH_done (by kernel_rfl) ?_ _
          have EG := ((HCC.out _).1 hS0).base
          have PG := hid (PR.out.ext EG)
          have RG := hid (RR.out.ext EG)
          have E5 := hid (ER.out.ext EG)
          have CV := hid (HCV.out.ext EG)
          clear hS0 hCx hCA HCC C EG PR RR ER HCV KR MR
          generalize wr.drew = wG at *
          have hv33 := hid (mpL_length HLV.out (.slice va ps.length vc))
          have ov := mpL_one lv (.slice va ps.length vc) rfl
          go_wp2_with (first | (refine wpl_loadw rfl 62 (.tmp 5) rfl rfl PG.out agg_mproof hv33.out ?_) | (refine wpl_storew rfl _ (.tmp 4) _ rfl rfl rfl RG.out agg_mproof hz33.out hv33.out ov ?_))
          intro w6 b6 u6
          go_wp2_with fail
          exact ret_row rfl rfl b6 agg_mproof hv33.out rfl ⟨lv, ps, va, vc, rfl, HLV.out, H32P.out, cells_upd CV.out u6 (fun b hb => by subst hb; have h9 := hvo b.block rfl; omega), ⟨hpf.out⟩, by omega, u6.ext E5.out (by omega)⟩
        · obtain ⟨u, hu⟩ : ∃ u, getK hs o = u := ⟨_, rfl⟩
          have hu32 : u.length = 32 := by rw [← hu]; exact getK_len MR.out.ents o
          have hpf := hid (hproof.out (pathK hs k os l ++ [o, u]) (by rw [show endK hs k [o] = [o, getK hs o] from if_neg hok, hu]))
          have hb0 : (o == k) = false := by simpa using hok
          rw [hb0] at HNE
          have hrun := hid (fun w' (h : TMap w' p g hs) => run_getK (w := w') h.map h.ents ho32 false)
          rw [hu] at hrun
          have HU32 := hid hu32
          have H2 := hid (show All32 [o, u] from fun x hx => by
            rcases List.mem_cons.1 hx with rfl | hx
            · exact ho32
            · rw [List.mem_singleton.1 hx]; exact hu32)
          clear hok hproof hb0 HKN hu hu32 ho32
          generalize pathK hs k os l = ps at *
          go_wp2_with fail
          obtain ⟨C, hC⟩ : ∃ C : World → Prop, C = Cls wr wr [] [] := ⟨_, rfl⟩
          have hC0 : ∀ w', C w' ↔ Cls wr wr [] [] w' := fun w' => by rw [hC]
          clear hC
          have HCC := hid hC0
          clear hC0
          have hCx : ∀ w w', C w → Ext w w' → C w' := fun w w' h1 h2 => (HCC.out w').2 (((HCC.out w).1 h1).ext h2)
          have hCA : C wr := (HCC.out _).2 (Cls.no_room (Ext.refl wr) (Kept.none _))
          refine wp_region_held_drew (S := C) (by kernel_rfl) (hCx _ _ hCA (Ext.refl _).drew) (fun hS0 => ?_)
          refine held_take 0 (v := ?tv48) rfl (by kernel_rfl) (by kernel_rfl) (by kernel_rfl) (fun _ _ _ h => h) (.inl ⟨rfl, ?ty48⟩) hS0 ?tr48
          case ty48 => (intro _ _; go_simp; try with_reducible rfl)
          case tr48 =>
          simp only [Act.put, List.setIfInBounds_toArray, List.set_cons_succ, List.set_cons_zero]
          refine held_take 1 (v := ?tv49) rfl (by kernel_rfl) (by kernel_rfl) (by kernel_rfl) (fun _ _ _ h => h) (.inl ⟨rfl, ?ty49⟩) hS0 ?tr49
          case ty49 => (intro _ _; go_simp; try with_reducible rfl)
          case tr49 =>
          simp only [Act.put, List.setIfInBounds_toArray, List.set_cons_succ, List.set_cons_zero]
          refine held_take 2 (v := ?tv50) rfl (by kernel_rfl) (by kernel_rfl) (by kernel_rfl) (fun _ _ _ h => h) (.inl ⟨rfl, ?ty50⟩) hS0 ?tr50
          case ty50 => (intro _ _; go_simp; try with_reducible rfl)
          case tr50 =>
          simp only [Act.put, List.setIfInBounds_toArray, List.set_cons_succ, List.set_cons_zero]
          refine held_take 3 (v := ?tv51) rfl (by kernel_rfl) (by kernel_rfl) (by kernel_rfl) (fun _ _ _ h => h) (.inl ⟨rfl, ?ty51⟩) hS0 ?tr51
          case ty51 => (intro _ _; go_simp; try with_reducible rfl)
          case tr51 =>
          simp only [Act.put, List.setIfInBounds_toArray, List.set_cons_succ, List.set_cons_zero]
          refine held_take 4 (v := ?tv52) rfl (by kernel_rfl) (by kernel_rfl) (by kernel_rfl) (fun _ _ _ h => h) (.inl ⟨rfl, ?ty52⟩) hS0 ?tr52
          case ty52 => (intro _ _; go_simp; try with_reducible rfl)
          case tr52 =>
          simp only [Act.put, List.setIfInBounds_toArray, List.set_cons_succ, List.set_cons_zero]
          refine held_take 5 (v := _) rfl (by kernel_rfl) (by kernel_rfl) (by kernel_rfl) (fun _ _ _ h => h) (yieldsI_run rfl (fun w1 _ => exec_index (i := 0) rfl rfl rfl Try.underlying29 size_apisum (by omega) w1)) hS0 ?_
          simp only [Act.put, List.setIfInBounds_toArray, List.set_cons_succ, List.set_cons_zero]
          refine held_take 6 (v := _) rfl (by kernel_rfl) (by kernel_rfl) (by kernel_rfl) (fun _ _ _ h => h) (yieldsI_run rfl (fun w1 h => exec_load_at rfl rfl (HCA.out.ext ((HCC.out w1).1 h).base) agg_apisum HOV.out)) hS0 ?_
          simp only [Act.put, List.setIfInBounds_toArray, List.set_cons_succ, List.set_cons_zero]
          refine held_take 7 (v := _) rfl (by kernel_rfl) (by kernel_rfl) (by kernel_rfl) (fun _ _ _ h => h) (yieldsI_loadw rfl 32 _ rfl rfl (fun w1 h => KR.out.ext ((HCC.out w1).1 h).base) agg_apisum HKV.out) hS0 ?_
          simp only [Act.put, List.setIfInBounds_toArray, List.set_cons_succ, List.set_cons_zero]
          refine held_take 8 (v := _) rfl (by kernel_rfl) (by kernel_rfl) (by kernel_rfl) (fun _ _ _ h => h) (yieldsI_run rfl (fun w1 _ => exec_cmp rfl rfl rfl guard_sum HNE.out w1)) hS0 ?_
          simp only [Act.put, List.setIfInBounds_toArray, List.set_cons_succ, List.set_cons_zero]
          refine held_take 9 (v := ?tv53) rfl (by kernel_rfl) (by kernel_rfl) (by kernel_rfl) (fun _ _ _ h => h) (.inl ⟨rfl, ?ty53⟩) hS0 ?tr53
          case ty53 => (intro _ _; go_simp; try with_reducible rfl)
          case tr53 =>
          simp only [Act.put, List.setIfInBounds_toArray, List.set_cons_succ, List.set_cons_zero]
          refine wpAnyH_done (by kernel_rfl) ?_ _
          have EG := ((HCC.out _).1 hS0).base
          have PG := hid (PR.out.ext EG)
          have RG := hid (RR.out.ext EG)
          have MG := hid (MR.out.ext EG)
          have E5 := hid (ER.out.ext EG)
          have OG := hid (ownsRow_ext OR.out EG)
          have HCB := hid (HCA.out.ext EG)
          have hbG := Nat.le_trans hbb EG.size
          clear hS0 hCx hCA HCC C EG PR RR ER KR MR HCA OR hbb
          generalize wr.drew = wG at *
          go_wp2_with fail
          obtain ⟨C, hC⟩ : ∃ C : World → Prop, C = Cls wG wG [] [] := ⟨_, rfl⟩
          have hC0 : ∀ w', C w' ↔ Cls wG wG [] [] w' := fun w' => by rw [hC]
          clear hC
          have HCC := hid hC0
          clear hC0
          have hCx : ∀ w w', C w → Ext w w' → C w' := fun w w' h1 h2 => (HCC.out w').2 (((HCC.out w).1 h1).ext h2)
          have hCA : C wG := (HCC.out _).2 (Cls.no_room (Ext.refl wG) (Kept.none _))
          have hc32 : ∀ w1, C w1 → w1.cell? ⟨g5, 32, none⟩ = some pv := fun w1 h1 => (PG.out.ext ((HCC.out w1).1 h1).base).cell' (mpL_at HLV.out pv)
          have hcp : ∀ w1, C w1 → w1.cell? ⟨p, 0, none⟩ = some (.map (some g)) := fun w1 h1 => (MG.out.ext ((HCC.out w1).1 h1).base).cell
          have hck : ∀ w1, C w1 → CellsAt w1 (A.add (0 * 32)) (o.map u8v) := fun w1 h1 => HCB.out.ext ((HCC.out w1).1 h1).base
          refine wp_region_w (S := C) (W := [14, 16]) (by kernel_rfl) (hCx _ _ hCA (Ext.refl _).drew) (fun hS0 => ?_)
          refine w_pure 0 (v := ?tv54) rfl (by kernel_rfl) (by kernel_rfl) (by kernel_rfl) (fun _ _ _ h => h) (.inl ⟨rfl, ?ty54⟩) ?tr54
          case ty54 => (intro _ _; go_simp; try with_reducible rfl)
          case tr54 =>
          simp only [Act.put, List.setIfInBounds_toArray, List.set_cons_succ, List.set_cons_zero]
          refine w_take 1 (v := ?tv55) rfl (by kernel_rfl) (by kernel_rfl) (by kernel_rfl) (by kernel_rfl) (by kernel_rfl) (fun _ _ _ h => h) (.inl ⟨rfl, ?ty55⟩) hS0 ?tr55
          case ty55 => (intro wq hwq; have hcq := (hc32) wq hwq; go_simp; try with_reducible rfl)
          case tr55 =>
          simp only [Act.put, List.setIfInBounds_toArray, List.set_cons_succ, List.set_cons_zero]
          refine w_pure 2 (v := ?tv56) rfl (by kernel_rfl) (by kernel_rfl) (by kernel_rfl) (fun _ _ _ h => h) (.inl ⟨rfl, ?ty56⟩) ?tr56
          case ty56 => (intro _ _; go_simp; try with_reducible rfl)
          case tr56 =>
          simp only [Act.put, List.setIfInBounds_toArray, List.set_cons_succ, List.set_cons_zero]
          refine w_pure 3 (v := _) rfl (by kernel_rfl) (by kernel_rfl) (by kernel_rfl) (fun _ _ _ h => h) (yieldsI_run rfl (fun w1 _ => exec_index (i := 0) rfl rfl rfl Try.underlying29 size_apisum (by omega) w1)) ?_
          simp only [Act.put, List.setIfInBounds_toArray, List.set_cons_succ, List.set_cons_zero]
          refine w_take 4 (v := _) rfl (by kernel_rfl) (by kernel_rfl) (by kernel_rfl) (by kernel_rfl) (by kernel_rfl) (fun _ _ _ h => h) (yieldsI_run rfl (fun w1 h => exec_load_at rfl rfl (hck w1 h) agg_apisum HOV.out)) hS0 ?_
          simp only [Act.put, List.setIfInBounds_toArray, List.set_cons_succ, List.set_cons_zero]
          refine w_pure 5 (v := ?tv57) rfl (by kernel_rfl) (by kernel_rfl) (by kernel_rfl) (fun _ _ _ h => h) (.inl ⟨rfl, ?ty57⟩) ?tr57
          case ty57 => (intro _ _; go_simp; try with_reducible rfl)
          case tr57 =>
          simp only [Act.put, List.setIfInBounds_toArray, List.set_cons_succ, List.set_cons_zero]
          refine w_pure 6 (v := ?tv58) rfl (by kernel_rfl) (by kernel_rfl) (by kernel_rfl) (fun _ _ _ h => h) (.inl ⟨rfl, ?ty58⟩) ?tr58
          case ty58 => (intro _ _; go_simp; try with_reducible rfl)
          case tr58 =>
          simp only [Act.put, List.setIfInBounds_toArray, List.set_cons_succ, List.set_cons_zero]
          refine w_pure 7 (v := ?tv59) rfl (by kernel_rfl) (by kernel_rfl) (by kernel_rfl) (fun _ _ _ h => h) (.inl ⟨rfl, ?ty59⟩) ?tr59
          case ty59 => (intro _ _; go_simp; try with_reducible rfl)
          case tr59 =>
          simp only [Act.put, List.setIfInBounds_toArray, List.set_cons_succ, List.set_cons_zero]
          refine w_take 8 (v := ?tv60) rfl (by kernel_rfl) (by kernel_rfl) (by kernel_rfl) (by kernel_rfl) (by kernel_rfl) (fun _ _ _ h => h) (.inl ⟨rfl, ?ty60⟩) hS0 ?tr60
          case ty60 => (intro wq hwq; have hcq := (hcp) wq hwq; go_simp; try with_reducible rfl)
          case tr60 =>
          simp only [Act.put, List.setIfInBounds_toArray, List.set_cons_succ, List.set_cons_zero]
          refine w_pure 9 (v := ?tv61) rfl (by kernel_rfl) (by kernel_rfl) (by kernel_rfl) (fun _ _ _ h => h) (.inl ⟨rfl, ?ty61⟩) ?tr61
          case ty61 => (intro _ _; go_simp; try with_reducible rfl)
          case tr61 =>
          simp only [Act.put, List.setIfInBounds_toArray, List.set_cons_succ, List.set_cons_zero]
          refine w_pure 10 (v := _) rfl (by kernel_rfl) (by kernel_rfl) (by kernel_rfl) (fun _ _ _ h => h) (yieldsI_run rfl (fun w1 _ => exec_index (i := 0) rfl rfl rfl Try.underlying29 size_apisum (by omega) w1)) ?_
          simp only [Act.put, List.setIfInBounds_toArray, List.set_cons_succ, List.set_cons_zero]
          refine w_take 11 (v := _) rfl (by kernel_rfl) (by kernel_rfl) (by kernel_rfl) (by kernel_rfl) (by kernel_rfl) (fun _ _ _ h => h) (yieldsI_run rfl (fun w1 h => exec_load_at rfl rfl (hck w1 h) agg_apisum HOV.out)) hS0 ?_
          simp only [Act.put, List.setIfInBounds_toArray, List.set_cons_succ, List.set_cons_zero]
          refine w_take 12 (v := _) rfl (by kernel_rfl) (by kernel_rfl) (by kernel_rfl) (by kernel_rfl) (by kernel_rfl) (fun _ _ _ h => h) (yieldsI_run rfl (fun w1 h => exec_getK rfl rfl rfl (hrun.out w1 (MG.out.ext ((HCC.out w1).1 h).base)))) hS0 ?_
          simp only [Act.put, List.setIfInBounds_toArray, List.set_cons_succ, List.set_cons_zero]
          generalize wG.drew = w8 at *
          refine w_one (i := 13) (by kernel_rfl) rfl (by kernel_rfl) hS0 ?_
          intro Q' hQ
          have hS9 := hCx _ _ hS0 ((Ext.refl w8).alloc (.cells (rows [o, u]).toArray 32))
          have NB : Hid (Blk (w8.alloc (.cells (rows [o, u]).toArray 32)) w8.heap.size (rows [o, u]) 32) := hid (Blk.mk_alloc rfl rfl)
          go_wp2_with (refine wpl_rows2 rfl rfl rfl rfl HO32.out HU32.out ?_)
          refine hQ _ _ hS9 ?_
          clear hQ Q' hS0
          generalize w8.alloc (.cells (rows [o, u]).toArray 32) = w9 at *
          have EG := ((HCC.out w9).1 hS9).base
          have P9 := hid (PG.out.ext EG)
          have R9 := hid (RG.out.ext EG)
          have E9 := hid (E5.out.ext EG)
          have O9 := hid (ownsRow_ext OG.out EG)
          have hb9 := Nat.le_trans hbG EG.size
          clear hS9 hc32 hcp hck EG PG RG E5 OG hbG hrun MG HCB
          generalize w8.heap.size = gb at *
          refine w_late (i := 14) (by kernel_rfl) rfl (by kernel_rfl) ?_
          intro Q' hQ
          go_wp2_with (at_builtin; refine wpl_append_rows rfl _ _ rfl B2 (m := 2) (ys := [o, u]) rfl rfl O9.out rfl H2.out NB.out (by omega) hb9 ?_)
          intro v10 w10 own10 g10
          obtain ⟨va, vc, rfl, _, _, _, hcv⟩ := own_sliceT (by decide) own10
          have HCV := hid hcv
          have hvo := own_block_ge own10
          have P10 := hid (Blk.kept P9.out (g10.block g5 P9.out.lt (fun he => by have := hog.out g5 he.symm; omega)))
          have R10 := hid (Blk.kept R9.out (g10.block (w.heap.size + 1) R9.out.lt (fun he => by have := hog.out _ he.symm; omega)))
          have E10 := hid (E9.out.grown g10 (fun z hz => by have := hog.out z hz; omega))
          clear own10 g10 P9 R9 E9 O9 hb9 NB hcv
          go_wp2_with fail
          refine hQ _ _ trivial ?_
          clear hQ Q'
          refine w_pure 15 (v := ?tv62) rfl (by kernel_rfl) (by kernel_rfl) (by kernel_rfl) (fun _ _ _ h => h) (.inl ⟨rfl, ?ty62⟩) ?tr62
          case ty62 => (intro _ _; go_simp; try with_reducible rfl)
          case tr62 =>
          simp only [Act.put, List.setIfInBounds_toArray, List.set_cons_succ, List.set_cons_zero]
          have c32 := P10.out.cell' (mpL_at HLV.out pv)
          have f32 := P10.out.frozen 32
          refine w_late (i := 16) (by kernel_rfl) rfl (by kernel_rfl) ?_
          intro Q' hQ
          go_wp2_with fail
          refine hQ _ _ trivial ?_
          clear hQ Q'
          refine w_done (by kernel_rfl) ?_ _
          have u11 : Upd w10 g5 (w10.setCell ⟨g5, 32, none⟩ (.slice va (ps.length + 2) vc)) := Upd.setCell _
          have b11 : Blk (w10.setCell ⟨g5, 32, none⟩ (.slice va (ps.length + 2) vc)) g5 (mpL lv (.slice va (ps.length + 2) vc)) 62 := by rw [← mpL_put HLV.out pv (.slice va (ps.length + 2) vc)]; exact P10.out.set 32 (.slice va (ps.length + 2) vc)
          have P11 := hid b11
          have R11 := hid (R10.out.upd u11 hgt)
          have E11 := hid (u11.ext E10.out (by omega))
          have C11 := hid (cells_upd HCV.out u11 (fun b hb => by subst hb; have h9 := hvo b.block rfl; omega))
          clear u11 b11 P10 R10 E10 c32 f32 HCV
          generalize w10.setCell ⟨g5, 32, none⟩ (.slice va (ps.length + 2) vc) = w11 at *
          have hv33 := hid (mpL_length HLV.out (.slice va (ps.length + 2) vc))
          have ov := mpL_one lv (.slice va (ps.length + 2) vc) rfl
          go_wp2_with (first | (refine wpl_loadw rfl 62 (.tmp 5) rfl rfl P11.out agg_mproof hv33.out ?_) | (refine wpl_storew rfl _ (.tmp 4) _ rfl rfl rfl R11.out agg_mproof hz33.out hv33.out ov ?_))
          intro w12 b12 u12
          go_wp2_with fail
          exact ret_row rfl rfl b12 agg_mproof hv33.out rfl ⟨lv, ps ++ [o, u], va, vc, by rw [List.length_append]; rfl, HLV.out, H32P.out.append H2.out, cells_upd C11.out u12 (fun b hb => by subst hb; have h9 := hvo b.block rfl; omega), ⟨hpf.out⟩, by rw [List.length_append]; simp; omega, u12.ext E11.out (by omega)⟩
end

section
open Go Go.RowKit

def keepK (k : List UInt8) (es : List (List UInt8)) : List (List UInt8) := es.filter fun y => !(y.take 32 == k)
theorem keepK_next {k : List UInt8} {es : List (List UInt8)} {j : Nat} {x : List UInt8} (hx : es[j]? = some x) : keepK k (es.take (j + 1)) = keepK k (es.take j) ++ if (x.take 32 == k) then [] else [x] := by
  unfold keepK
  rw [List.take_add_one, hx, List.filter_append]
  cases h : (x.take 32 == k) <;> simp [h]
theorem keepK_none {k : List UInt8} {es : List (List UInt8)} (h : es.findIdx? (fun y => y.take 32 == k) = none) : keepK k es = es := by
  unfold keepK
  rw [List.filter_eq_self]
  intro x hx
  have := List.findIdx?_eq_none_iff.1 h x hx
  simp [this]
theorem keepK_first {k : List UInt8} {es : List (List UInt8)} {i : Nat} (h : es.findIdx? (fun y => y.take 32 == k) = some i) : keepK k (es.take (i + 1)) = es.take i ∧ i < es.length := by
  obtain ⟨hi, h1, h2⟩ := List.findIdx?_eq_some_iff_getElem.1 h
  refine ⟨?_, hi⟩
  rw [keepK_next (List.getElem?_eq_getElem hi), if_pos h1, List.append_nil]
  unfold keepK
  rw [List.filter_eq_self]
  intro x hx
  obtain ⟨j, hj, rfl⟩ := List.mem_iff_getElem.1 hx
  rw [List.length_take] at hj
  have := h2 j (by omega)
  rw [List.getElem_take]
  simpa using this

theorem take_set_next {X : List (List UInt8)} {m : Nat} {x : List UInt8} (h : m < X.length) : (X.set m x).take (m + 1) = X.take m ++ [x] := by
  rw [List.take_add_one, List.getElem?_set_self h, List.take_set_of_le (Nat.le_refl _)]
  rfl

set_option maxRecDepth 100000 in
set_option maxHeartbeats 4000000 in
theorem delFuncE_c (es : List (List UInt8)) (k : List UInt8) (B gk n c : Nat) (a : Option Addr) (w : World) (h64 : All64 es) (hk : k.length = 32) (hn : es.length = n) (hn1 : n ≤ 1000) (own : w.ownsRow B 51 64 (.slice a n c) n (rows es)) (hkb : Blk w gk (k.map u8v) 32) (hne : ∀ z, (Value.slice a n c).ownBlock = some z → gk ≠ z) :
    Calls Try.prog 35 #[.slice a n c, .func (.func 36) #[] #[.pointer (some ⟨gk, 0, none⟩)]] w fun e w' =>
      e = .returned (.slice a (keepK k es).length c) ∧ w'.ownsRow B 51 64 (.slice a (keepK k es).length c) (keepK k es).length (rows (keepK k es)) ∧ w.grownBy w' (Value.slice a n c).ownBlock := by
  obtain ⟨_, _, hv, hnc, hcm, _, hcl⟩ := own_sliceT (by decide) own
  cases hv
  have hix := indexFE_c (fun y => y.take 32 == k) 36 #[.pointer (some ⟨gk, 0, none⟩)] es a n c w enters_e2 hn (by omega) h64 hcl (fun y hy w' e' => eclos2_c y k gk w' (h64 y hy) hk (hkb.ext e'))
  cases hf : es.findIdx? (fun y => y.take 32 == k) with
  | none =>
    rw [hf] at hix
    have hkeep := keepK_none hf
    rw [hkeep, hn]
    have HIX := hid hix
    have HO := hid own
    clear hix hf hkeep own hkb hcl
    have em : ((-1 : Int) == -1) = true := by decide
    go_enter Try.func35, Try.ntmps35
    go_wp2_with fail
    refine HIX.out.mono ?_
    rintro e w1 ⟨rfl, e1⟩
    have HO1 := hid (ownsRow_ext HO.out e1)
    have G1 := hid (gby_ext (gby_self w (Value.slice a n c).ownBlock) e1)
    clear e1 HO
    rw [show ixI none = -1 from rfl]
    go_wp2_with fail
    go_ret
    exact ⟨rfl, HO1.out, G1.out⟩
  | some i =>
    rw [hf] at hix
    obtain ⟨hfirst, hil⟩ := keepK_first hf
    rw [hn] at hil
    obtain ⟨q, rfl⟩ := own_addr own (by omega)
    obtain ⟨rest, hb, hln, hrl, hBq, _, _⟩ := own_block own
    have hgq : gk ≠ q := hne q rfl
    have HIX := hid hix
    have HB := hid hb
    have HKB := hid hkb
    have HFI := hid hfirst
    have HN := hid hn
    have H64 := hid h64
    have HLN := hid hln
    have hni : ((i : Int) == -1) = false := by simp <;> omega
    have hw1 : IntKind.i64.wrap ((i : Int) + 1) = ((i + 1 : Nat) : Int) := by rw [IntWalk.i64_in _ (by omega)]; omega
    have hHK := hid hk
    clear hix hf hb hkb hfirst hn own hcl hln hrl hne h64 hk
    go_enter Try.func35, Try.ntmps35
    go_wp2_with fail
    refine HIX.out.mono ?_
    rintro e w1 ⟨rfl, e1⟩
    have B1 := hid (HB.out.ext e1)
    have K1 := hid (HKB.out.ext e1)
    have G1 := hid (gby_ext (gby_self w (some q)) e1)
    clear e1 HB HKB HIX
    rw [show ixI (some i) = (i : Int) from rfl]
    go_wp2_with fail
    go_loopw [5, 6] (fun iv jv wr => ∃ (m j : Nat) (X : List (List UInt8)), iv = .int .i64 (m : Int) ∧ jv = .int .i64 (j : Int) ∧ m < j ∧ j ≤ n ∧ X.length = n ∧ All64 X ∧ X.take m = keepK k (es.take j) ∧ X.drop j = es.drop j ∧ Blk wr q (rows X ++ rest) 51 ∧ Blk wr gk (k.map u8v) 32 ∧ w.grownBy wr (some q)) (fun _ jv _ => n - (intOf jv).toNat)
    case atStart => exact ⟨i, i + 1, es, rfl, rfl, by omega, by omega, HN.out, H64.out, HFI.out.symm, rfl, B1.out, K1.out, G1.out⟩
    case round =>
      obtain ⟨m, j, X, rfl, rfl, hmj, hjn, hXn, hX64, htk, hdr, hbw, hkw, hgw⟩ := hrel
      have BW := hid hbw
      have KW := hid hkw
      have GW := hid hgw
      have HXN := hid hXn
      have HX64 := hid hX64
      have HTK := hid htk
      have HDR := hid hdr
      clear hbw hkw hgw hXn hX64 htk hdr B1 K1 G1
      by_cases hlt : j < n
      · have d1 : decide ((j : Int) < (n : Int)) = true := decide_eq_true (by omega)
        have d2 : decide (j < n) = true := decide_eq_true hlt
        obtain ⟨x, hx⟩ : ∃ x, es[j]? = some x := ⟨es[j]'(by rw [HN.out]; exact hlt), by simp⟩
        have hXj : X[j]? = some x := by
          have h1 : (X.drop j)[0]? = some x := by rw [HDR.out, List.getElem?_drop, Nat.add_zero]; exact hx
          rw [List.getElem?_drop, Nat.add_zero] at h1; exact h1
        have hx64 := HX64.out.at hXj
        have HCA := hid (blk_ent BW.out HX64.out hXj)
        have HXV := hid (show (x.map u8v).length = 64 by rw [List.length_map]; exact hx64)
        have hxo := one_u8 x
        have hnext := keepK_next (k := k) hx
        have hdr2 : X.drop (j + 1) = es.drop (j + 1) := by
          rw [← List.drop_drop (i := 1) (j := j), ← List.drop_drop (i := 1) (j := j), HDR.out]
        have HX0 := hid hx64
        have HXJ := hid hXj
        have HD2 := hid hdr2
        have hcl2 := hid (fun w' h => eclos2_c x k gk w' HX0.out hHK.out h)
        have hw2 : IntKind.i64.wrap ((j : Int) + 1) = ((j + 1 : Nat) : Int) := by rw [IntWalk.i64_in _ (by omega)]; omega
        have hw3 : IntKind.i64.wrap ((m : Int) + 1) = ((m + 1 : Nat) : Int) := by rw [IntWalk.i64_in _ (by omega)]; omega
        clear hx hXj hx64 hdr2
        go_wp2_with (first | (refine wpl_run rfl (exec_index (i := j) rfl rfl rfl Try.underlying43 size_entry hlt _) ?_) | (refine wpl_run rfl (exec_load_at rfl rfl HCA.out agg_entry HXV.out) ?_) | (refine wpl_storew rfl _ (.tmp 7) _ rfl rfl rfl (Blk.mk_alloc (vs := List.replicate 64 (.int .u8 0)) rfl rfl) agg_entry (by simp) HXV.out hxo ?_))
        intro w2 b2 u2
        have e2 : Ext wr w2 := u2.ext ((Ext.refl wr).alloc _) (Nat.le_refl _)
        have hrq := BW.out.lt
        have B2 := hid (BW.out.ext e2)
        have K2 := hid (KW.out.ext e2)
        have G2 := hid (gby_ext GW.out e2)
        have V2 := hid b2
        clear b2 u2 e2 BW KW GW HCA
        generalize hgv : wr.heap.size = gv at *
        clear hgv
        go_wp2_with (first | (refine wpl_loadw rfl 51 (.tmp 7) rfl rfl V2.out agg_entry HXV.out ?_))
        refine (hcl2.out w2 K2.out).mono ?_
        rintro e w3 ⟨rfl, e3⟩
        have B3 := hid (B2.out.ext e3)
        have K3 := hid (K2.out.ext e3)
        have G3 := hid (gby_ext G2.out e3)
        have V3 := hid (V2.out.ext e3)
        clear e3 B2 K2 G2 V2 hcl2
        cases hxk : (x.take 32 == k) with
        | true =>
          rw [hxk, if_pos rfl, List.append_nil] at hnext
          have HNX := hid hnext
          clear hnext hxk
          go_wp2_with fail
          go_roundw
          case rel => exact ⟨m, j + 1, X, rfl, by first | rfl | (congr 1; omega), by omega, by omega, HXN.out, HX64.out, by rw [HNX.out]; exact HTK.out, HD2.out, B3.out, K3.out, G3.out⟩
          case measure => simp [intOf]; omega
        | false =>
          rw [hxk, if_neg (by decide)] at hnext
          have HNX := hid hnext
          have hmn : m < n := by omega
          have hsp := hid (splice_ent (es := X) (rest := rest) (k := m) x HX64.out HX0.out (by rw [HXN.out]; exact hmn))
          have hfit := hid (show m * 64 + (x.map u8v).length ≤ (rows X ++ rest).length by rw [HXV.out, List.length_append, rows_length64 HX64.out, HXN.out]; omega)
          clear hnext hxk
          go_wp2_with (first | (refine wpl_loadw rfl 51 (.tmp 7) rfl rfl V3.out agg_entry HXV.out ?_) | (refine wpl_run rfl (exec_index0 (i := m) rfl rfl rfl Try.underlying43 size_entry hmn _) ?_) | (refine wpl_store rfl 51 _ _ rfl (g := q) (off := m * 64) (xs := x.map u8v) rfl rfl B3.out (by rw [HXV.out]; exact agg_entry) hfit.out hxo ?_))
          intro w4 b4 u4
          rw [hsp.out] at b4
          have B4 := hid b4
          have K4 := hid (K3.out.upd u4 hgq)
          have G4 := hid (gby_upd G3.out u4)
          clear b4 u4 B3 K3 G3 V3
          go_wp2_with fail
          go_roundw
          case rel => exact ⟨m + 1, j + 1, X.set m x, by first | rfl | (congr 1; omega), by first | rfl | (congr 1; omega), by omega, by omega, by rw [List.length_set]; exact HXN.out, set64 HX64.out HX0.out, by rw [HNX.out, ← HTK.out]; exact take_set_next (by rw [HXN.out]; exact hmn), by rw [List.drop_set_of_lt (by omega)]; exact HD2.out, B4.out, K4.out, G4.out⟩
          case measure => simp [intOf]; omega
      · obtain rfl : j = n := by omega
        have hall : X.take m = keepK k es := by
          rw [HTK.out, List.take_of_length_le (by rw [HN.out]; exact Nat.le_refl _)]
        have hml : (keepK k es).length = m := by rw [← hall, List.length_take, HXN.out]; omega
        have hxl : (rows X).length = j * 64 := by rw [rows_length64 HX64.out, HXN.out]; omega
        have hrX : (rows X).take (m * 64) = rows (keepK k es) := by rw [flat_take64 HX64.out, hall]
        have hlnX : (rows X ++ rest).length = c * 64 := by rw [List.length_append, hxl, ← HLN.out, List.length_append, rows_length64 H64.out, HN.out]; omega
        obtain ⟨zs, hzl, hclr⟩ := run_clear_entries (c := c - m) BW.out (show 0 < j - m by omega) (show m * 64 + (j - m) * 64 ≤ (rows X ++ rest).length by rw [List.length_append, hxl, ← Nat.add_mul, show m + (j - m) = j by omega]; omega)
        have hsp : splice (rows X ++ rest) (m * 64) zs = rows (keepK k es) ++ (zs ++ (rows X ++ rest).drop (m * 64 + zs.length)) := by
          unfold splice
          rw [List.take_append_of_le_length (by rw [hxl]; exact Nat.mul_le_mul_right 64 (by omega)), hrX, List.append_assoc]
        have hl3 : (splice (rows X ++ rest) (m * 64) zs).length = c * 64 := by
          rw [splice_len _ (by rw [hzl, hlnX, ← Nat.add_mul]; exact Nat.mul_le_mul_right 64 (by omega))]
          exact hlnX
        have b3 := Blk.setRow BW.out (splice (rows X ++ rest) (m * 64) zs)
        have u3 : Upd wr q (wr.setRow q (splice (rows X ++ rest) (m * 64) zs).toArray) := Upd.setRow _
        rw [hsp] at b3 u3 hl3
        simp only [hsp] at hclr
        have hkl64 : All64 (keepK k es) := H64.out.filter _
        have own3 := own_mk b3 hl3 (show (rows (keepK k es)).length = m * 64 by rw [rows_length64 hkl64, hml]; omega) hBq (by omega) hcm
        generalize wr.setRow q (rows (keepK k es) ++ (zs ++ (rows X ++ rest).drop (m * 64 + zs.length))).toArray = w3 at *
        have G3 := hid (gby_upd GW.out u3)
        have O3 := hid own3
        have HML := hid hml
        have hsh := hid (show shiftz (some ⟨q, 0, none⟩) c m 64 = some ⟨q, m * 64, none⟩ by
          unfold shiftz
          rw [if_neg (by omega), Option.map_some, addr_add, Nat.zero_add])
        have hmc : m ≤ c := by omega
        have hmj2 : m ≤ j := by omega
        clear b3 u3 hsp hl3 own3 hall hml hxl hrX hlnX hzl HTK HDR
        go_wp2_with (first | (refine wpl_run rfl (exec_lowS (k := m) hsh.out rfl rfl rfl Try.underlying43 size_entry hmj2 _) ?_) | (refine wpl_run rfl (exec_high (k := m) rfl rfl rfl Try.underlying43 size_entry hmc _) ?_) | (simp only [hclr]))
        go_ret
        exact ⟨by rw [HML.out]; rfl, by rw [HML.out]; exact O3.out, G3.out⟩
end

section
open Go Go.RowKit Go.Maps Go.MapKept

set_option maxRecDepth 100000 in
set_option maxHeartbeats 4000000 in
theorem mapsMatch_c (ls : List StepR) (a : Option Addr) (n c : Nat) (w : World) (hl : ls.length = n) (hnc : n ≤ c) (hcl : Cells w a (stepsV ls)) :
    Calls Try.prog 4 #[.slice a n c] w fun e w' => e = .returned (.bool true) ∧ Ext w w' := by
  have HC := hid hcl
  have hmp := hid (fun w' h => mapped_c ls a n c w' hl hnc h)
  have hnz0 : ∀ p ∈ foldM (ls.take 40), p.2 ≠ zero32 := foldM_nz _ _ (by simp)
  generalize foldM (ls.take 40) = hs at *
  clear hl hcl
  go_enter Try.func4, Try.ntmps4
  go_wp2_with fail
  refine (landed_c w).mono ?_
  rintro e w1 ⟨rfl, e1⟩
  have E1 := hid e1
  have s1 := e1.size
  clear e1
  go_wp2_with fail
  refine (hmp.out w1 (HC.out.ext E1.out)).mono ?_
  rintro e w2 ⟨p, g, B, v, rfl, hg0, hp0, hgB, hpB, hB0, hm, own, h40, e2⟩
  obtain ⟨ha, hcp, rfl, hnc2, hcm2, hnil2, hcl2⟩ := own_sliceT (by decide) own
  have hE := hm.ents
  have M2 := hid hm
  have O2 := hid own
  have C2 := hid hcl2
  have E2 := hid (E1.out.ext e2)
  have HE := hid hE
  have s2 := e2.size
  have HNZ := hid hnz0
  have hRL := mapRootL_length 256 0 (entsL hs)
  have hrt := hid (fun w' (h : TMap w' p g hs) => root_c p g hs w' h (by omega))
  have hrr := hid (fun w' h => mapRoot_c 256 0 (entsL hs) ha hs.length hcp w' (entsL_len hs) (by omega) (entsL_64 hE) (by omega) (ents_part hE) h)
  have hrp := hid (fun (hs' : List Ent) (h : hs'.Perm hs) => ents_perm hE h.symm)
  obtain ⟨R, hR⟩ : ∃ R, mapRootL 256 0 (entsL hs) = R := ⟨_, rfl⟩
  rw [hR] at hrt hrr hrp hRL
  have HRL := hid hRL
  have HNE := hid (fun w => neq_arr Try.underlying32 R R hRL hRL w)
  have HEQ := hid (fun w => eq_arr Try.underlying32 R R hRL hRL w)
  rw [show (R == R) = true from by simp] at HNE HEQ
  clear hm own hcl2 e2 E1 hmp hnz0 hE hR hRL HC
  go_wp2_with fail
  refine (hrt.out w2 M2.out).mono ?_
  rintro e w3 ⟨rfl, e3⟩
  have M3 := hid (M2.out.ext e3)
  have O3 := hid (ownsRow_ext O2.out e3)
  have E3 := hid (E2.out.ext e3)
  have C3 := hid (C2.out.ext e3)
  have s3 := e3.size
  clear e3 M2 O2 E2 C2
  go_wp2_with fail
  refine (hrr.out w3 C3.out).mono ?_
  rintro e w4 ⟨rfl, e4⟩
  have M4 := hid (M3.out.ext e4)
  have O4 := hid (ownsRow_ext O3.out e4)
  have E4 := hid (E3.out.ext e4)
  have s4 := e4.size
  clear e4 M3 O3 E3 C3 hrr
  go_wp2_with (first | (refine wpg_cmp rfl .neq _ _ _ _ rfl rfl rfl guard_sum HNE.out ?_))
  refine (newMap_c w4).mono ?_
  rintro e w5 ⟨rfl, hm5, e5⟩
  have N5 := hid hm5
  have M5 := hid (M4.out.ext e5)
  have O5 := hid (ownsRow_ext O4.out e5)
  have E5 := hid (E4.out.ext e5)
  have hob := hid (fun q hq => And.intro (own_block_ge O4.out q hq) (own_block_lt' O4.out q hq))
  have hpl : p < w4.heap.size := M4.out.blk.lt
  have hgl : g < w4.heap.size := M4.out.map.lt
  have s5 : w4.heap.size + 1 < w5.heap.size := hm5.blk.lt
  clear hm5 e5 M4 O4 E4 HNE
  obtain ⟨p2, hp2⟩ : ∃ p2, w4.heap.size + 1 = p2 := ⟨_, rfl⟩
  obtain ⟨g2, hg2⟩ : ∃ g2, w4.heap.size = g2 := ⟨_, rfl⟩
  have HP2 := hid hp2
  rw [hp2] at N5 s5 ⊢
  rw [hg2] at N5 hpl hgl hob
  have HG2 := hid hg2
  clear hp2 hg2
  go_wp2_with fail
  refine (reverseO_c (entsL hs) B hs.length hcp ha w5 (entsL_64 HE.out) (entsL_len hs) (by omega) O5.out).mono ?_
  rintro e w6 ⟨rfl, es2, hpm, own6, g6⟩
  have hq5 := hid (fun q hq => own_block_ge O5.out q hq)
  have M6 := hid (M5.out.grown g6 (fun he => by have := hq5.out p he.symm; omega) (fun he => by have := hq5.out g he.symm; omega))
  have N6 := hid (N5.out.grown g6 (fun he => by have := (hob.out p2 he.symm).2; have := HP2.out; have := HG2.out; omega) (fun he => by have := (hob.out g2 he.symm).2; omega))
  have E6 := hid (E5.out.grown g6 (fun q hq => by have := hq5.out q hq; omega))
  have O6 := hid own6
  have s6 := g6.size
  obtain ⟨hs2, hs2d⟩ : ∃ hs2, es2.map splitE = hs2 := ⟨_, rfl⟩
  have hes2 : es2 = entsL hs2 := by rw [← hs2d, ents_back]
  have hpm2 : hs2.Perm hs := by rw [← hs2d, ← split_ents HE.out]; exact hpm.map _
  subst hes2
  have HPM := hid hpm2
  have HE2 := hid (HE.out.perm hpm2)
  have hob3 := hob
  have hl2 : hs2.length = hs.length := hpm2.length_eq
  clear g6 own6 M5 N5 O5 E5 hpm hs2d hpm2
  go_wp2_with fail
  obtain ⟨NN, hNN⟩ : ∃ NN, hs.length = NN := ⟨_, rfl⟩
  rw [hNN] at O6 hl2 h40 hq5 hob3 ⊢
  have HL2 := hid hl2
  have HNN := hid hNN
  obtain ⟨B2, hB2⟩ : ∃ B2, w6.heap.size = B2 := ⟨_, rfl⟩
  have hob2 := hid (fun q hq => And.intro (hq5.out q hq) (own_block_lt' O6.out q hq))
  have hp2B : p2 < B2 := by rw [← hB2]; exact N6.out.blk.lt
  have hg2B : g2 < B2 := by rw [← hB2]; exact N6.out.map.lt
  rw [hB2] at hob2
  have HB2 := hid hB2
  have hpB2 : p < B2 := by omega
  have hgB2 : g < B2 := by omega
  have hgw : w.heap.size ≤ g2 := by have := HG2.out; omega
  have hwB2 : w.heap.size ≤ B2 := by omega
  have hgp2 : g ≠ g2 ∧ p ≠ g2 := ⟨by omega, by omega⟩
  have hpo : p2 ≠ g2 := N6.out.ne
  have hobg : Hid (∀ q, (Value.slice ha NN hcp).ownBlock = some q → q ≠ g2 ∧ B ≤ q ∧ q < B2) := hid (fun q hq => ⟨by have := (hob3.out q hq).2; omega, hob2.out q hq⟩)
  clear hB2 hNN hl2 hq5 hob2 hob3 s1 s2 s3 s4 s5 s6 hpl hgl
  go_loopw [32, 7] (fun i v wr => ∃ j : Nat, j ≤ NN ∧ i = .int .i64 (j : Int) ∧ TMap wr p2 g2 (hs2.take j) ∧ wr.ownsRow B2 32 32 v j (rows ((hs2.take j).map Prod.fst)) ∧ TMap wr p g hs ∧ wr.ownsRow B 51 64 (.slice ha NN hcp) NN (rows (entsL hs2)) ∧ Ext w wr ∧ B2 ≤ wr.heap.size) (fun i _ _ => NN - (intOf i).toNat)
  case atStart => exact ⟨0, by omega, rfl, N6.out, ⟨by simp [rows], .inl ⟨rfl, rfl⟩⟩, M6.out, O6.out, E6.out, by rw [HB2.out]; exact Nat.le_refl _⟩
  case round =>
    obtain ⟨j, hj, rfl, hn', hk', hm', ho', he', hb'⟩ := hrel
    have NR := hid hn'
    have KR := hid hk'
    have MR := hid hm'
    have OR := hid ho'
    have ER := hid he'
    clear hn' hk' hm' ho' he' N6 M6 O6 E6
    by_cases hlt : j < NN
    · obtain ⟨q, rfl⟩ := own_addr OR.out (by omega)
      obtain ⟨rest, hbk, _, _, _, _, _⟩ := own_block OR.out
      obtain ⟨⟨kk, vv⟩, hx⟩ : ∃ x, hs2[j]? = some x := ⟨hs2[j]'(by rw [HL2.out]; exact hlt), by simp⟩
      have hmem := List.mem_of_getElem? hx
      have hk32 := HE2.out.k32 _ hmem
      have hv32 := HE2.out.v32 _ hmem
      have hvz : (vv == zero32) = false := by
        have := HNZ.out (kk, vv) (HPM.out.mem_iff.1 hmem)
        simpa using this
      have hrow : (entsL hs2)[j]? = some (kk ++ vv) := by unfold entsL; rw [List.getElem?_map, hx]; rfl
      have h64 := entsL_64 HE2.out
      have hca := blk_ent hbk h64 hrow
      have hset := hid (setK_next HE2.out hx)
      have hkeys : (hs2.take (j + 1)).map Prod.fst = (hs2.take j).map Prod.fst ++ [kk] := by rw [List.take_add_one, hx, List.map_append]; rfl
      have HKS := hid hkeys
      have hsc := hid (fun w' (h : TMap w' p2 g2 (hs2.take j)) => set_c p2 g2 (hs2.take j) kk vv w' h hk32 hv32 (by rw [List.length_take]; omega))
      rw [hvz] at hsc
      have HEN := hid (h64.at hrow)
      have HK0 := hid (show (((kk ++ vv).map u8v).drop 0).take 32 = kk.map u8v by rw [List.drop_zero, List.map_append, List.take_left' (by rw [List.length_map]; exact hk32)])
      have HV0 := hid (show (((kk ++ vv).map u8v).drop 32).take 32 = vv.map u8v by rw [List.map_append, List.drop_left' (by rw [List.length_map]; exact hk32), List.take_of_length_le (by rw [List.length_map]; exact Nat.le_of_eq hv32)])
      generalize kk ++ vv = en at *
      have HCA := hid hca
      have HEV := hid (show (en.map u8v).length = 64 by rw [List.length_map]; exact HEN.out)
      have HL32 := hid (show 0 + 32 ≤ (en.map u8v).length by rw [HEV.out]; omega)
      have HL64 := hid (show 32 + 32 ≤ (en.map u8v).length by rw [HEV.out]; exact Nat.le_refl _)
      have oen := one_u8 en
      have HKK := hid hk32
      clear hx hmem hk32 hv32 hvz hrow h64 hca hbk hkeys
      go_wp2_with (first | (refine wpl_run rfl (exec_index (i := j) rfl rfl rfl Try.underlying43 size_entry hlt _) ?_) | (refine wpl_run rfl (exec_load_at rfl rfl HCA.out agg_entry HEV.out) ?_) | (refine wpl_storew rfl _ (.tmp 9) _ rfl rfl rfl (Blk.mk_alloc (vs := List.replicate 64 (.int .u8 0)) rfl rfl) agg_entry (by simp) HEV.out oen ?_))
      intro w7 b7 u7
      have e7 : Ext wr w7 := u7.ext ((Ext.refl wr).alloc _) (Nat.le_refl _)
      have N7 := hid (NR.out.ext e7)
      have K7 := hid (ownsRow_ext KR.out e7)
      have M7 := hid (MR.out.ext e7)
      have O7 := hid (ownsRow_ext OR.out e7)
      have E7 := hid (ER.out.ext e7)
      have B7 := hid b7
      have hkl := hid (fun q hq => own_block_lt' KR.out q hq)
      have hbb7 : B2 ≤ w7.heap.size := Nat.le_trans hb' e7.size
      have s7 := e7.size
      clear b7 u7 e7 NR KR MR OR ER HCA
      generalize hge : wr.heap.size = ge at *
      clear hge
      go_wp2_with (first | (refine wpl_loadp rfl 32 (.tmp 37) rfl rfl B7.out agg_apisum HL32.out HK0.out ?_) | (refine wpl_loadp rfl 32 (.tmp 39) rfl rfl B7.out agg_apisum HL64.out HV0.out ?_))
      refine (hsc.out w7 N7.out).mono ?_
      rintro e w8 ⟨rfl, hn8, g8⟩
      rw [if_neg (by decide), hset.out] at hn8
      have N8 := hid hn8
      have hkge := hid (own_block_ge K7.out)
      have K8 := hid (own_keep K7.out (fun z hz => g8.block z (by have := hkl.out z hz; omega) (fun he => by have := hkge.out z hz; have := Option.some.inj he; omega)))
      have M8 := hid (M7.out.grown g8 (fun he => hgp2.2 (Option.some.inj he)) (fun he => hgp2.1 (Option.some.inj he)))
      have O8 := hid (own_keep O7.out (fun z hz => g8.block z (own_block_lt' O7.out z hz) (fun he => (hobg.out z hz).1 (Option.some.inj he))))
      have E8 := hid (E7.out.grown g8 (fun z hz => by cases hz; exact hgw))
      have B8 := hid (Blk.kept B7.out (g8.block ge B7.out.lt (fun he => by have := Option.some.inj he; omega)))
      have hbb8 : B2 ≤ w8.heap.size := Nat.le_trans hbb7 g8.size
      clear hn8 g8 N7 K7 M7 O7 E7 B7 hsc
      have N9 := hid (N8.out.ext ((Ext.refl w8).alloc (.cells (kk.map u8v).toArray 32)))
      have K9 := hid (ownsRow_ext K8.out ((Ext.refl w8).alloc (.cells (kk.map u8v).toArray 32)))
      have M9 := hid (M8.out.ext ((Ext.refl w8).alloc (.cells (kk.map u8v).toArray 32)))
      have O9 := hid (ownsRow_ext O8.out ((Ext.refl w8).alloc (.cells (kk.map u8v).toArray 32)))
      have E9 := hid (E8.out.alloc (.cells (kk.map u8v).toArray 32))
      have R9 : Hid (Blk (w8.alloc (.cells (kk.map u8v).toArray 32)) w8.heap.size (kk.map u8v) 32) := hid (Blk.mk_alloc rfl rfl)
      have hbb9 : B2 ≤ (w8.alloc (.cells (kk.map u8v).toArray 32)).heap.size := Nat.le_trans hbb8 ((Ext.refl w8).alloc _).size
      clear N8 K8 M8 O8 E8
      go_wp2_with (first | (refine wpl_loadp rfl 32 (.tmp 44) rfl rfl B8.out agg_apisum HL32.out HK0.out ?_) | (refine wpl_buildRow rfl rfl rfl HKK.out ?_) | (at_builtin; refine wpl_append_row rfl _ _ rfl B2 rfl rfl K9.out HKK.out R9.out (by omega) hbb9 ?_))
      intro v9 wX own9 g9
      have hge9 := own_block_ge K9.out
      have NX := hid (N9.out.grown g9 (fun he => by have := hge9 p2 he.symm; omega) (fun he => by have := hge9 g2 he.symm; omega))
      have MX := hid (M9.out.grown g9 (fun he => by have := hge9 p he.symm; omega) (fun he => by have := hge9 g he.symm; omega))
      have OX := hid (own_keep O9.out (fun z hz => g9.block z (own_block_lt' O9.out z hz) (fun he => by have := hge9 z he.symm; have := (hobg.out z hz).2.2; omega)))
      have EX := hid (E9.out.grown g9 (fun z hz => by have := hge9 z hz; omega))
      have KX := hid own9
      have hbbX : B2 ≤ wX.heap.size := Nat.le_trans hbb9 g9.size
      clear own9 g9 hge9 N9 K9 M9 O9 E9 R9 B8
      go_wp2_with fail
      go_roundw
      case rel => exact ⟨j + 1, by omega, by go_num, NX.out, by rw [HKS.out, List.map_take]; exact KX.out, MX.out, OX.out, EX.out, hbbX⟩
      case measure => simp [intOf]; omega
    · obtain rfl : j = NN := by omega
      have htk : hs2.take j = hs2 := List.take_of_length_le (by rw [HL2.out]; exact Nat.le_refl _)
      rw [htk] at NR KR
      clear htk hlt hj
      go_wp2_with fail
      have hsf : ∃ (q : Option Addr) (es : List (List UInt8)) (d : Nat), u7 = .slice q j d ∧ es.length = j ∧ Calls Try.prog 27 #[u7, .func (.func 28) #[] #[]] wr fun e w' => e = .returned (.tuple #[]) ∧ ∃ es : List (List UInt8), es.length = j ∧ es.Perm (hs2.map Prod.fst) ∧ Sorted32 es ∧ Cells w' q (rows es) ∧ TMap w' p2 g2 hs2 ∧ TMap w' p g hs ∧ Ext w w' := by
        have hk32 : All32 (hs2.map Prod.fst) := fun x hx => by
          obtain ⟨z, hz, rfl⟩ := List.mem_map.1 hx
          exact HE2.out.k32 z hz
        have hkl : (hs2.map Prod.fst).length = j := by rw [List.length_map]; exact HL2.out
        by_cases h0 : j = 0
        · subst h0
          obtain ⟨q, d, rfl⟩ : ∃ q d, u7 = .slice q 0 d := by
            rcases KR.out.2 with ⟨rfl, _⟩ | ⟨g, cap, cur, rfl, _⟩
            · exact ⟨_, _, rfl⟩
            · exact ⟨_, _, rfl⟩
          have hnil : hs2 = [] := List.length_eq_zero_iff.1 HL2.out
          refine ⟨q, [], d, rfl, rfl, (sortN_c q d _ wr).mono ?_⟩
          rintro e w' ⟨rfl, rfl⟩
          exact ⟨rfl, [], rfl, by rw [hnil]; simp, List.Pairwise.nil, .inl rfl, NR.out, MR.out, ER.out⟩
        · obtain ⟨v, hv⟩ : ∃ v, u7 = v := ⟨_, rfl⟩
          obtain ⟨q, d, rest, rfl, hbq, hb, hnd⟩ : ∃ q d rest, u7 = .slice (some ⟨q, 0, none⟩) j d ∧ B2 ≤ q ∧ Blk wr q (rows (hs2.map Prod.fst) ++ rest) 32 ∧ j ≤ d := by
            rcases KR.out.2 with ⟨_, h⟩ | ⟨g, cap, cur, h1, hb, hg, hx1, hx2, hx3, hx4⟩
            · exact absurd h h0
            · refine ⟨g, cap, cur.toList.drop (j * 32), h1, hb, ?_, hx1⟩
              unfold Blk
              rw [← hx4, List.take_append_drop]
              simpa using hg
          refine ⟨some ⟨q, 0, none⟩, hs2.map Prod.fst, d, rfl, hkl, (sortF_c 28 mclos_c enters_m1 (hs2.map Prod.fst) rest q j d _ wr hk32 hkl hb (by omega)).mono ?_⟩
          rintro e w' ⟨rfl, es, hp, hs', b2, gg⟩
          refine ⟨rfl, es, by rw [hp.length_eq, hkl], hp, sorted_strict hp HE2.out.nodup hs', .inr ⟨q, 0, rfl, fun i u hu => ?_⟩, NR.out.grown gg (fun he => by have := Option.some.inj he; omega) (fun he => by have := Option.some.inj he; omega), MR.out.grown gg (fun he => by have := Option.some.inj he; omega) (fun he => by have := Option.some.inj he; omega), ER.out.grown gg (fun z hz => by cases hz; omega)⟩
          rw [Nat.zero_add]
          refine b2.cell' ?_
          rw [List.getElem?_append_left (List.getElem?_eq_some_iff.1 hu).1]
          exact hu
      obtain ⟨q, _, d, rfl, _, hsf⟩ := hsf
      have HSF := hid hsf
      clear hsf NR KR MR OR ER
      refine HSF.out.mono ?_
      rintro e wS ⟨rfl, es, hel, hep, hes, hec, hn', hm', he'⟩
      have NS := hid hn'
      have MS := hid hm'
      have ES := hid he'
      have CS := hid hec
      have HEL := hid hel
      have HEP := hid hep
      have HES := hid hes
      have hrn := root_c p2 g2 hs2 wS hn' (by rw [HL2.out]; omega)
      rw [← hrp.out hs2 HPM.out] at hrn
      have HRN := hid hrn
      have HRV := hid (show (R.map u8v).length = 32 by rw [List.length_map]; exact HRL.out)
      clear hn' hm' he' hec hel hep hes hrn HSF
      go_wp2_with fail
      refine HRN.out.mono ?_
      rintro e wT ⟨rfl, eT⟩
      have MT := hid (MS.out.ext eT)
      have ET := hid (ES.out.ext eT)
      have CT := hid (CS.out.ext eT)
      clear eT MS ES CS NS HRN
      go_wp2_with fail
      refine (hrt.out wT MT.out).mono ?_
      rintro e wU ⟨rfl, eU⟩
      have MU := hid (MT.out.ext eU)
      have EU := hid (ET.out.ext eU)
      have CU := hid (CT.out.ext eU)
      clear eU MT ET CT
      go_wp2_with (first | (refine wpg_cmp rfl .eql _ _ _ _ rfl rfl rfl guard_sum HEQ.out ?_))
      refine (keys_c p g hs wU MU.out (by rw [HNN.out]; omega)).mono ?_
      rintro e wV ⟨b, os, d2, rfl, hop, hos, hoc, _, _, eV⟩
      obtain rfl : os = es := sorted_unique (hop.trans ((HPM.out.map Prod.fst).symm.trans HEP.out.symm)) hos HES.out
      have EV := hid (EU.out.ext eV)
      have heq := hid (equalS_c os os b q j j d2 d wV HEL.out HEL.out (by omega) (fun x hx => by
        obtain ⟨z, hz, rfl⟩ := List.mem_map.1 (HEP.out.mem_iff.1 hx)
        exact HE2.out.k32 z hz) (fun x hx => by
        obtain ⟨z, hz, rfl⟩ := List.mem_map.1 (HEP.out.mem_iff.1 hx)
        exact HE2.out.k32 z hz) hoc (CU.out.ext eV))
      rw [show (os == os) = true from by simp] at heq
      rw [HEL.out]
      clear hop hos hoc eV
      go_wp2_with fail
      refine heq.out.mono ?_
      rintro e wW ⟨rfl, eW⟩
      have EW := hid (EV.out.ext eW)
      clear eW
      go_wp2_with fail
      go_ret
      exact ⟨rfl, EW.out⟩
end

section
open Go Go.RowKit Go.Maps Go.MapKept

theorem filt_none : ∀ {l : List Ent} {k : List UInt8}, (∀ p ∈ l, p.1 ≠ k) → l.filter (fun p => !(p.1 == k)) = l := fun {l k} h => by
  rw [List.filter_eq_self]
  intro p hp
  simpa using h p hp
theorem keep_ents {hs : List Ent} (h : Ents hs) (k : List UInt8) : keepK k (entsL hs) = entsL (hs.filter fun p => !(p.1 == k)) := by
  unfold keepK entsL
  rw [List.filter_map]
  congr 1
  apply List.filter_congr
  intro p hp
  show (!((p.1 ++ p.2).take 32 == k)) = _
  rw [List.take_left' (h.k32 p hp)]
theorem keep_perm {hs : List Ent} (h : Ents hs) (k v : List UInt8) : (keepK k (entsL hs) ++ [k ++ v]).Perm (entsL (setK hs k v)) := by
  rw [keep_ents h]
  have e : entsL (hs.filter fun p => !(p.1 == k)) ++ [k ++ v] = entsL ((hs.filter fun p => !(p.1 == k)) ++ [(k, v)]) := by unfold entsL; rw [List.map_append]; rfl
  rw [e]
  refine List.Perm.map _ ?_
  unfold setK
  cases hx : ixK k hs with
  | none =>
    rw [filt_none (fun p hp => ixK_none.1 hx p hp)]
  | some i =>
    obtain ⟨u, hu⟩ := ixK_at hx
    obtain ⟨hi, hiu⟩ := List.getElem?_eq_some_iff.1 hu
    obtain ⟨A, D, hAD, hAl⟩ : ∃ A D, hs = A ++ (k, u) :: D ∧ A.length = i := ⟨hs.take i, hs.drop (i + 1), by rw [← hiu]; simp, by simp; omega⟩
    have hnd := h.nodup
    subst hAD
    subst hAl
    rw [List.map_append, List.map_cons, List.nodup_append] at hnd
    obtain ⟨n1, n2, n3⟩ := hnd
    rw [List.nodup_cons] at n2
    have hA : ∀ p ∈ A, p.1 ≠ k := fun p hp => n3 p.1 (List.mem_map.2 ⟨p, hp, rfl⟩) k (by simp)
    have hD : ∀ p ∈ D, p.1 ≠ k := fun p hp he => n2.1 (he ▸ List.mem_map.2 ⟨p, hp, rfl⟩)
    show (List.filter (fun p => !(p.1 == k)) (A ++ (k, u) :: D) ++ [(k, v)]).Perm ((A ++ (k, u) :: D).set A.length (k, v))
    rw [List.filter_append, List.filter_cons, filt_none hA, filt_none hD]
    simp only [BEq.rfl, Bool.not_true, Bool.false_eq_true, if_false]
    have e2 : (A ++ (k, u) :: D).set A.length (k, v) = A ++ (k, v) :: D := by simp
    rw [e2, List.append_assoc]
    exact (List.perm_append_left_iff A).2 (List.perm_append_singleton (k, v) D)
/-- what Changed says here -/
theorem changed_here {hs : List Ent} {k v lv : List UInt8} {ls : List (List UInt8)} {R S : List UInt8} {Z : Bool} (h : Ents hs) (hnz : ∀ p ∈ hs, p.2 ≠ zero32) (hk : k.length = 32) (hv : v.length = 32) (hR : mapRootL 256 0 (entsL hs) = R) (hZ : (v == zero32) = Z) (hS : S = if Z then zero32 else mapRootL 256 0 (entsL (setK hs k v))) (hp : ProofOf hs k lv ls) :
    changedE R k (getK hs k) v lv ls = (if Z then 2 else 0) ∧ changedS R k (getK hs k) v lv ls = S := by
  subst hR
  cases Z with
  | true =>
    rw [hS]
    unfold changedE changedS
    rw [hZ]
    exact ⟨rfl, rfl⟩
  | false =>
    rw [hS]
    exact changed_proof h hnz hk hv hZ hp

theorem keep_root {hs : List Ent} (h : Ents hs) {k v R : List UInt8} (hk : k.length = 32) (hv : v.length = 32) (hR : mapRootL 256 0 (entsL (setK hs k v)) = R) :
    Parts 256 0 (keepK k (entsL hs) ++ [k ++ v]) ∧ mapRootL 256 0 (keepK k (entsL hs) ++ [k ++ v]) = R := by
  have h1 := ents_part (h.set hk hv)
  have h2 := (keep_perm h k v).symm
  exact ⟨h1.perm h2, (mapRootL_perm 256 0 h1 h2).symm.trans hR⟩
theorem keep_len (k : List UInt8) (es : List (List UInt8)) : (keepK k es).length ≤ es.length := List.length_filter_le _ _
theorem keep_64 {k : List UInt8} {es : List (List UInt8)} (h : All64 es) : All64 (keepK k es) := fun x hx => h x (List.mem_filter.1 hx).1

set_option maxRecDepth 100000 in
set_option maxHeartbeats 4000000 in
theorem mapsChange_c (ls : List StepR) (a : Option Addr) (n c : Nat) (nk nv : Int) (w : World) (hl : ls.length = n) (hnc : n ≤ c) (hcl : Cells w a (stepsV ls)) :
    Calls Try.prog 5 #[.slice a n c, .int .i64 nk, .int .i64 nv] w fun e w' => e = .returned (.bool true) ∧ Ext w w' := by
  have HC := hid hcl
  have hmp := hid (fun w' h => mapped_c ls a n c w' hl hnc h)
  have hnz0 : ∀ p ∈ foldM (ls.take 40), p.2 ≠ zero32 := foldM_nz _ _ (by simp)
  generalize foldM (ls.take 40) = hs at *
  have hkey := hid (fun w' => key_c nk w')
  have hval := hid (fun w' => key_c nv w')
  have hk32 := keyL_len nk
  have hv32 := keyL_len nv
  generalize keyL nk = kl at *
  generalize keyL nv = vl at *
  clear hl hcl
  go_enter Try.func5, Try.ntmps5
  go_wp2_with fail
  refine (landed_c w).mono ?_
  rintro e w1 ⟨rfl, e1⟩
  have E1 := hid e1
  clear e1
  go_wp2_with fail
  refine (hmp.out w1 (HC.out.ext E1.out)).mono ?_
  rintro e w2 ⟨p, g, B, v, rfl, hg0, hp0, hgB, hpB, hB0, hm, own, h40, e2⟩
  obtain ⟨ha, hcp, rfl, hnc2, hcm2, hnil2, hcl2⟩ := own_sliceT (by decide) own
  have hE := hm.ents
  have M2 := hid hm
  have O2 := hid own
  have E2 := hid (E1.out.ext e2)
  have HE := hid hE
  have hBw : w.heap.size ≤ B := Nat.le_trans E1.out.size hB0
  have hgw : w.heap.size ≤ g := Nat.le_trans E1.out.size hg0
  have hpw : w.heap.size ≤ p := Nat.le_trans E1.out.size hp0
  have HK32 := hid hk32
  have HV32 := hid hv32
  have HKV := hid (show (kl.map u8v).length = 32 by rw [List.length_map]; exact hk32)
  have HVV := hid (show (vl.map u8v).length = 32 by rw [List.length_map]; exact hv32)
  have ok := one_u8 kl
  have ov := one_u8 vl
  obtain ⟨R, hR⟩ : ∃ R, mapRootL 256 0 (entsL hs) = R := ⟨_, rfl⟩
  obtain ⟨Rn, hRn⟩ : ∃ Rn, mapRootL 256 0 (entsL (setK hs kl vl)) = Rn := ⟨_, rfl⟩
  obtain ⟨Z, hZ⟩ : ∃ Z, (vl == zero32) = Z := ⟨_, rfl⟩
  obtain ⟨S, hS⟩ : ∃ S, S = if Z then zero32 else Rn := ⟨_, rfl⟩
  have hRL : R.length = 32 := by rw [← hR]; exact mapRootL_length _ _ _
  have hRnL : Rn.length = 32 := by rw [← hRn]; exact mapRootL_length _ _ _
  have hSL : S.length = 32 := by rw [hS]; cases Z <;> first | exact zero32_l | exact hRnL
  have hch := (fun lv ls (h : ProofOf hs kl lv ls) => changed_here (S := S) hE hnz0 hk32 hv32 hR hZ (by rw [hRn]; exact hS) h)
  obtain ⟨G, hG⟩ : ∃ G, getK hs kl = G := ⟨_, rfl⟩
  have hGL : G.length = 32 := by rw [← hG]; exact getK_len hE kl
  have hroot := hid (fun w' (h : TMap w' p g hs) => root_c p g hs w' h (by omega))
  rw [hR] at hroot
  rw [hG] at hch
  have hgc := (fun w' (h : TMap w' p g hs) => get_c p g hs kl w' h hk32)
  rw [hG] at hgc
  obtain ⟨e0, he0⟩ : ∃ e0, (if (ixK kl hs).isSome = true then (0:Int) else 7) = e0 := ⟨_, rfl⟩
  rw [he0] at hgc
  clear he0
  have hgc := hid hgc
  obtain ⟨EV, hEV⟩ : ∃ EV, (if Z = true then (2:Int) else 0) = EV := ⟨_, rfl⟩
  rw [hEV] at hch
  have HEV := hid hEV
  have hch := hid hch
  clear hEV
  have hpv := hid (fun w' (h : TMap w' p g hs) => prove_c p g hs kl w' h (by omega) hk32)
  have hcg := hid (fun (lv : List UInt8) (l2 : List (List UInt8)) b d w' (h1 : lv.length = 32) (h2 : All32 l2) (h3 : l2.length ≤ 2000) h4 => changed_c R kl G vl lv l2 b l2.length d w' hRL hk32 hGL hv32 h1 rfl (by omega) h2 h4)
  have HRV := hid (show (R.map u8v).length = 32 by rw [List.length_map]; exact hRL)
  have HGV := hid (show (G.map u8v).length = 32 by rw [List.length_map]; exact hGL)
  have HSV := hid (show (S.map u8v).length = 32 by rw [List.length_map]; exact hSL)
  have oG := one_u8 G
  have oS := one_u8 S
  have HRN := hid hRn
  have HRNL := hid hRnL
  have HS := hid hS
  have HEZ := hid (fun w => eq_arr Try.underlying32 vl zero32 hv32 zero32_l w)
  rw [hZ] at HEZ
  have HNZ := hid hnz0
  have HZ := hid hZ
  have h64 := entsL_64 hE
  have hln := entsL_len hs
  obtain ⟨en, hen⟩ : ∃ en, kl ++ vl = en := ⟨_, rfl⟩
  have henl : en.length = 64 := by rw [← hen, List.length_append, hk32, hv32]
  have hkr := keep_root hE hk32 hv32 hRn
  rw [hen] at hkr
  have hdf := (fun gk w' h h2 h3 => delFuncE_c (entsL hs) kl B gk hs.length hcp ha w' h64 hk32 hln (by omega) h h2 h3)
  have hkl := keep_len kl (entsL hs)
  have hk64 := keep_64 (k := kl) h64
  obtain ⟨KP, hKP⟩ : ∃ KP, keepK kl (entsL hs) = KP := ⟨_, rfl⟩
  rw [hKP] at hkr hkl hk64
  simp only [hKP] at hdf
  have hdf := hid hdf
  obtain ⟨m, hm1⟩ : ∃ m, KP.length = m := ⟨_, rfl⟩
  have hm40 : m ≤ 40 := by omega
  have hk641 : All64 (KP ++ [en]) := by
    intro x hx
    rcases List.mem_append.1 hx with hx | hx
    · exact hk64 x hx
    · rw [List.mem_singleton.1 hx]; exact henl
  have hmr := (fun a2 c2 w' h => mapRoot_c 256 0 (KP ++ [en]) a2 (m + 1) c2 w' (by rw [List.length_append, hm1]; rfl) (by omega) hk641 (by omega) hkr.1 h)
  rw [hkr.2] at hmr
  have hmr := hid hmr
  have HEN := hid hen
  have HEL := hid henl
  have HM1 := hid hm1
  have HRNV := hid (show (Rn.map u8v).length = 32 by rw [List.length_map]; exact hRnL)
  have oRn := one_u8 Rn
  have HZZ := hid (fun w => show (binOp .eql 32 (.agg (zero32.map u8v).toArray) (.agg (zero32.map u8v).toArray)).run Try.prog w = .ok (.bool true) w by rw [eq_arr Try.underlying32 _ _ zero32_l zero32_l w]; simp)
  have HNN := hid (fun w => show (binOp .eql 32 (.agg (Rn.map u8v).toArray) (.agg (Rn.map u8v).toArray)).run Try.prog w = .ok (.bool true) w by rw [eq_arr Try.underlying32 _ _ hRnL hRnL w]; simp)
  have hset := hid (fun w' h => set_c p g hs kl vl w' h hk32 hv32 (by omega))
  rw [hZ] at hset
  have hrs := hid (fun w' (h : TMap w' p g (setK hs kl vl)) => root_c p g (setK hs kl vl) w' h (by have := setK_len hs kl vl; omega))
  rw [hRn] at hrs
  clear hk641 hk64 hkl hkr h64 hln hen henl hKP
  clear hm own hcl2 e2 E1 hmp hnz0 hE hR hRL HC hk32 hv32 hRn hRnL hS hSL hG hGL hZ
  go_wp2_with fail
  refine (hkey.out w2).mono ?_
  rintro e w3 ⟨rfl, e3⟩
  have M3 := hid (M2.out.ext e3)
  have O3 := hid (ownsRow_ext O2.out e3)
  have E3 := hid (E2.out.ext e3)
  have hob := hid (fun z hz => own_block_lt' O3.out z hz)
  clear e3 M2 O2 E2
  go_wp2_with fail
  refine (hval.out w3).mono ?_
  rintro e w4 ⟨rfl, e4⟩
  have M4 := hid (M3.out.ext e4)
  have O4 := hid (ownsRow_ext O3.out e4)
  have E4 := hid (E3.out.ext e4)
  have s4 := e4.size
  have hpl := M3.out.blk.lt
  have hgl := M3.out.map.lt
  clear e4 M3 O3 E3 hkey hval
  go_wp2_with (first | (refine wpl_storew rfl _ (.tmp 10) _ rfl rfl rfl ((Blk.mk_alloc (vs := List.replicate 32 (.int .u8 0)) rfl rfl).alloc _) agg_apisum (by simp) HKV.out ok ?_))
  intro w5 b5 u5
  have eal : Ext w4 (World.alloc (World.alloc w4 (.cells (List.replicate 32 (.int .u8 0)).toArray 32)) (.cells (List.replicate 32 (.int .u8 0)).toArray 32)) := ((Ext.refl w4).alloc _).alloc _
  have e5 : Ext w4 w5 := u5.ext eal (Nat.le_refl _)
  have V5 : Hid (Blk w5 (w4.heap.size + 1) (List.replicate 32 (.int .u8 0)) 32) := hid ((Blk.mk_alloc (by simp) rfl : Blk (World.alloc (World.alloc w4 (.cells (List.replicate 32 (.int .u8 0)).toArray 32)) (.cells (List.replicate 32 (.int .u8 0)).toArray 32)) (w4.heap.size + 1) (List.replicate 32 (.int .u8 0)) 32).upd u5 (by omega))
  have K5 := hid b5
  have M5 := hid (M4.out.ext e5)
  have O5 := hid (ownsRow_ext O4.out e5)
  have E5 := hid (E4.out.ext e5)
  have hv4 := V5.out.lt
  clear b5 u5 eal e5 M4 O4 E4
  obtain ⟨gk, hgk⟩ : ∃ gk, w4.heap.size = gk := ⟨_, rfl⟩
  obtain ⟨gv, hgv⟩ : ∃ gv, w4.heap.size + 1 = gv := ⟨_, rfl⟩
  rw [hgv] at V5 hv4 ⊢
  rw [hgk] at K5 s4 hgv ⊢
  have HGV' := hid hgv
  clear hgk hgv
  go_wp2_with (first | (refine wpl_storew rfl _ (.tmp 11) _ rfl rfl rfl V5.out agg_apisum (by simp) HVV.out ov ?_))
  intro w6 b6 u6
  have hgkv : gk ≠ gv := by have := HGV'.out; omega
  have hpk : p < gk ∧ g < gk := ⟨by omega, by omega⟩
  have hpv2 : p ≠ gv ∧ g ≠ gv := ⟨by have := HGV'.out; omega, by have := HGV'.out; omega⟩
  have hob5 := hid (fun z hz => And.intro (own_block_ge O5.out z hz) (Nat.lt_of_lt_of_le (hob.out z hz) s4))
  have V6 := hid b6
  have K6 := hid (K5.out.upd u6 hgkv)
  have M6 := hid (M5.out.upd u6 hpv2.1 hpv2.2)
  have O6 := hid (own_keep O5.out (fun z hz => u6.block z (by have := (hob5.out z hz).2; have := HGV'.out; omega)))
  have E6 := hid (u6.ext E5.out (by have := HGV'.out; omega))
  clear b6 u6 V5 K5 M5 O5 E5
  go_wp2_with (first | (refine wpl_loadw rfl 32 (.tmp 10) rfl rfl K6.out agg_apisum HKV.out ?_))
  refine (hgc.out w6 M6.out).mono ?_
  rintro e w7 ⟨rfl, e7⟩
  have V7 := hid (V6.out.ext e7)
  have K7 := hid (K6.out.ext e7)
  have M7 := hid (M6.out.ext e7)
  have O7 := hid (ownsRow_ext O6.out e7)
  have E7 := hid (E6.out.ext e7)
  clear e7 V6 K6 M6 O6 E6 hgc
  go_wp2_with (first | (refine wpl_storew rfl _ (.tmp 12) _ rfl rfl rfl (Blk.mk_alloc (vs := List.replicate 32 (.int .u8 0)) rfl rfl) agg_apisum (by simp) HGV.out oG ?_))
  intro w8 b8 u8
  have e8 : Ext w7 w8 := u8.ext ((Ext.refl w7).alloc _) (Nat.le_refl _)
  have V8 := hid (V7.out.ext e8)
  have K8 := hid (K7.out.ext e8)
  have M8 := hid (M7.out.ext e8)
  have O8 := hid (ownsRow_ext O7.out e8)
  have E8 := hid (E7.out.ext e8)
  have G8 := hid b8
  clear b8 u8 e8 V7 K7 M7 O7 E7
  generalize hgo : w7.heap.size = go at *
  clear hgo
  go_wp2_with fail
  obtain ⟨C, hC⟩ : ∃ C : World → Prop, C = Cls w8 w8 [] [] := ⟨_, rfl⟩
  have hC0 : ∀ w', C w' ↔ Cls w8 w8 [] [] w' := fun w' => by rw [hC]
  clear hC
  have HCC := hid hC0
  clear hC0
  have hCx : ∀ w w', C w → Ext w w' → C w' := fun w w' h1 h2 => (HCC.out w').2 (((HCC.out w).1 h1).ext h2)
  have hCA : C w8 := (HCC.out _).2 (Cls.no_room (Ext.refl w8) (Kept.none _))
  refine wp_region_held_drew (S := C) (by kernel_rfl) (hCx _ _ hCA (Ext.refl _).drew) (fun hS0 => ?_)
  refine held_take 0 (v := ?tv1) rfl (by kernel_rfl) (by kernel_rfl) (by kernel_rfl) (fun _ _ _ h => h) (.inl ⟨rfl, ?ty1⟩) hS0 ?tr1
  case ty1 => (intro _ _; go_simp; try with_reducible rfl)
  case tr1 =>
  simp only [Act.put, List.setIfInBounds_toArray, List.set_cons_succ, List.set_cons_zero]
  refine held_take 2 (v := _) rfl (by kernel_rfl) (by kernel_rfl) (by kernel_rfl) (fun _ _ _ h => h) (yieldsI_loadw rfl 32 _ rfl rfl (fun w1 h => K8.out.ext ((HCC.out w1).1 h).base) agg_apisum HKV.out) hS0 ?_
  simp only [Act.put, List.setIfInBounds_toArray, List.set_cons_succ, List.set_cons_zero]
  refine held_take 3 (v := _) rfl (by kernel_rfl) (by kernel_rfl) (by kernel_rfl) (fun _ _ _ h => h) (yieldsI_loadw rfl 32 _ rfl rfl (fun w1 h => G8.out.ext ((HCC.out w1).1 h).base) agg_apisum HGV.out) hS0 ?_
  simp only [Act.put, List.setIfInBounds_toArray, List.set_cons_succ, List.set_cons_zero]
  refine held_take 4 (v := _) rfl (by kernel_rfl) (by kernel_rfl) (by kernel_rfl) (fun _ _ _ h => h) (yieldsI_loadw rfl 32 _ rfl rfl (fun w1 h => V8.out.ext ((HCC.out w1).1 h).base) agg_apisum HVV.out) hS0 ?_
  simp only [Act.put, List.setIfInBounds_toArray, List.set_cons_succ, List.set_cons_zero]
  refine held_take 5 (v := ?tv2) rfl (by kernel_rfl) (by kernel_rfl) (by kernel_rfl) (fun _ _ _ h => h) (.inl ⟨rfl, ?ty2⟩) hS0 ?tr2
  case ty2 => (intro _ _; go_simp; try with_reducible rfl)
  case tr2 =>
  simp only [Act.put, List.setIfInBounds_toArray, List.set_cons_succ, List.set_cons_zero]
  refine held_take 6 (v := _) rfl (by kernel_rfl) (by kernel_rfl) (by kernel_rfl) (fun _ _ _ h => h) (yieldsI_loadw rfl 32 _ rfl rfl (fun w1 h => K8.out.ext ((HCC.out w1).1 h).base) agg_apisum HKV.out) hS0 ?_
  simp only [Act.put, List.setIfInBounds_toArray, List.set_cons_succ, List.set_cons_zero]
  refine Fl_start (B := World.heap w8 |>.size) (A := 12) (d := 14) (T := 32) (vs := List.replicate 32 (.int .u8 0)) (D := C) undef rfl hCx (fun _ h => h) (fun _ h => ((HCC.out _).1 h).kept.1) hS0 ?_
  try dsimp only
  simp only [Act.put, List.setIfInBounds_toArray, List.set_cons_succ, List.set_cons_zero]
  refine Fl_step 1 (β := Unit) (fun _ => .agg (R.map u8v).toArray) (fun _ _ => True) rfl rfl rfl rfl (fun _ _ => rfl) (by kernel_rfl) (by kernel_rfl) (by kernel_rfl) rfl (fun _ _ => by simp only [Act.put, List.setIfInBounds_toArray, List.set_cons_succ, List.set_cons_zero]) ?phi1 ?step1 ?rest1
  case phi1 => exact fun _ _ _ _ _ => trivial
  case step1 =>
    intro x w9 hD Q' hQ
    go_wp2_with fail
    refine (hroot.out w9 (M8.out.ext ((HCC.out w9).1 hD).base)).mono ?_
    rintro e w10 ⟨rfl, e10⟩
    go_wp2_with fail
    exact hQ () _ e10 trivial
  case rest1 =>
  intro _
  try dsimp only
  try simp only [Act.put, List.setIfInBounds_toArray, List.set_cons_succ, List.set_cons_zero]
  refine Fl_step 7 (β := List UInt8 × List (List UInt8) × Option Addr × Nat) (fun b => .agg (mpL b.1 (.slice b.2.2.1 b.2.1.length b.2.2.2)).toArray) (fun b w' => b.1.length = 32 ∧ All32 b.2.1 ∧ b.2.1.length ≤ 2000 ∧ ProofOf hs kl b.1 b.2.1 ∧ Cells w' b.2.2.1 (rows b.2.1)) rfl rfl rfl rfl (fun _ _ => rfl) (by kernel_rfl) (by kernel_rfl) (by kernel_rfl) rfl (fun _ _ => by simp only [Act.put, List.setIfInBounds_toArray, List.set_cons_succ, List.set_cons_zero]) ?phi7 ?step7 ?rest7
  case phi7 => exact fun _ _ _ h e => ⟨h.1, h.2.1, h.2.2.1, h.2.2.2.1, h.2.2.2.2.ext e⟩
  case step7 =>
    rintro x w9 ⟨hD, _⟩ Q' hQ
    go_wp2_with fail
    refine (hpv.out w9 (M8.out.ext ((HCC.out w9).1 hD).base)).mono ?_
    rintro e w10 ⟨lv, l2, b, d, rfl, q1, q2, q3, q4, q5, e10⟩
    go_wp2_with fail
    exact hQ (lv, l2, b, d) _ e10 ⟨q1, q2, q5, q4, q3⟩
  case rest7 =>
  rintro ⟨lv, l2, b, d⟩
  try dsimp only
  try simp only [Act.put, List.setIfInBounds_toArray, List.set_cons_succ, List.set_cons_zero]
  refine Fl_step 8 (β := Unit) (fun _ => .tuple #[.agg (S.map u8v).toArray,   .int .i64 EV]) (fun _ _ => True) rfl rfl rfl rfl (fun _ _ => rfl) (by kernel_rfl) (by kernel_rfl) (by kernel_rfl) rfl (fun _ _ => by simp only [Act.put, List.setIfInBounds_toArray, List.set_cons_succ, List.set_cons_zero]) ?phi8 ?step8 ?rest8
  case phi8 => exact fun _ _ _ _ _ => trivial
  case step8 =>
    rintro x w9 ⟨⟨hD, _⟩, q1, q2, q3, q4, q5⟩ Q' hQ
    have hcc := hcg.out lv l2 b d w9 q1 q2 q3 q5
    rw [(hch.out lv l2 q4).1, (hch.out lv l2 q4).2] at hcc
    have HCC9 := hid hcc
    clear hcc q1 q2 q3 q4 q5
    go_wp2_with fail
    refine HCC9.out.mono ?_
    rintro e w10 ⟨rfl, e10⟩
    go_wp2_with fail
    exact hQ () _ e10 trivial
  case rest8 =>
  rintro ⟨⟩
  try dsimp only
  try simp only [Act.put, List.setIfInBounds_toArray, List.set_cons_succ, List.set_cons_zero]
  refine Fl_take 9 (v := ?tv3) rfl (by kernel_rfl) (by kernel_rfl) (by kernel_rfl) (by kernel_rfl) (by kernel_rfl) rfl (fun _ _ _ h => h) (fun _ => .inl ⟨rfl, ?ty3⟩) ?tr3
  case ty3 => (intro _ _; go_simp; try with_reducible rfl)
  case tr3 =>
  try dsimp only
  simp only [Act.put, List.setIfInBounds_toArray, List.set_cons_succ, List.set_cons_zero]
  refine Fl_take 10 (v := ?tv4) rfl (by kernel_rfl) (by kernel_rfl) (by kernel_rfl) (by kernel_rfl) (by kernel_rfl) rfl (fun _ _ _ h => h) (fun _ => .inl ⟨rfl, ?ty4⟩) ?tr4
  case ty4 => (intro _ _; go_simp; try with_reducible rfl)
  case tr4 =>
  try dsimp only
  simp only [Act.put, List.setIfInBounds_toArray, List.set_cons_succ, List.set_cons_zero]
  refine Fl_take 11 (v := ?tv5) rfl (by kernel_rfl) (by kernel_rfl) (by kernel_rfl) (by kernel_rfl) (by kernel_rfl) rfl (fun _ _ _ h => h) (fun _ => .inl ⟨rfl, ?ty5⟩) ?tr5
  case ty5 => (intro _ _; go_simp; try with_reducible rfl)
  case tr5 =>
  try dsimp only
  simp only [Act.put, List.setIfInBounds_toArray, List.set_cons_succ, List.set_cons_zero]
  refine Fl_end rfl rfl rfl (fun _ _ => rfl) (by kernel_rfl) (fun _ _ => by simp only [Act.put, List.setIfInBounds_toArray, List.set_cons_succ, List.set_cons_zero]) ?_
  rintro gs w9 ⟨⟨⟨hC9, _⟩, _⟩, _⟩ lb hb
  have HB := hid hb
  have HC9 := hid hC9
  clear hb hC9 hS0
  refine held_one (i := 13) (by kernel_rfl) rfl ?_
  intro Q' hQ
  go_wp2_with (refine wpl_storew rfl _ _ _ rfl rfl rfl HB.out agg_apisum (by simp) HSV.out oS ?_)
  intro w10 b10 u10
  have hS9 : C w10 := (HCC.out w10).2 (((HCC.out w9).1 HC9.out).upd u10 lb (by first | exact Nat.le_refl _ | omega))
  refine hQ _ _ hS9 ?_
  have S10 := hid b10
  have e10 := ((HCC.out w10).1 hS9).base
  clear hQ Q' b10 u10 HB HC9
  have hS0 := hS9
  clear hS9
  try dsimp only
  try simp only [Act.put, List.setIfInBounds_toArray, List.set_cons_succ, List.set_cons_zero]
  refine held_take 14 (v := ?tv6) rfl (by kernel_rfl) (by kernel_rfl) (by kernel_rfl) (fun _ _ _ h => h) (.inl ⟨rfl, ?ty6⟩) hS0 ?tr6
  case ty6 => (intro _ _; go_simp; try with_reducible rfl)
  case tr6 =>
  simp only [Act.put, List.setIfInBounds_toArray, List.set_cons_succ, List.set_cons_zero]
  refine wpAnyH_done (by kernel_rfl) ?_ _
  have V10 := hid (V8.out.ext e10)
  have K10 := hid (K8.out.ext e10)
  have M10 := hid (M8.out.ext e10)
  have O10 := hid (ownsRow_ext O8.out e10)
  have E10 := hid (E8.out.ext e10)
  have hgs : gk < gs := Nat.lt_of_lt_of_le K8.out.lt lb
  clear hS0 e10 V8 K8 M8 O8 E8 G8 hCx hCA HCC C hroot hpv hcg hch
  cases Z with
  | true =>
    have hev : EV = 2 := by have := HEV.out; simpa using this.symm
    have hsv : S = zero32 := by have := HS.out; simpa using this
    subst hev
    subst hsv
    go_wp2_with (first | (refine wpl_loadw rfl 32 (.tmp 11) rfl rfl V10.out agg_apisum HVV.out ?_) | (refine wpg_cmp rfl .eql _ _ _ _ rfl rfl rfl guard_sum HEZ.out ?_) | (refine wpg_loadw (by rfl) 32 (.tmp 14) rfl rfl S10.out agg_apisum HSV.out ?_) | (refine wpg_cmp (by rfl) .eql _ _ _ _ rfl rfl rfl guard_sum HZZ.out ?_))
    go_ret
    exact ⟨rfl, E10.out⟩
  | false =>
    have hev : EV = 0 := by have := HEV.out; simpa using this.symm
    have hsv : S = Rn := by have := HS.out; simpa using this
    subst hev
    subst hsv
    go_wp2_with (first | (refine wpl_loadw rfl 32 (.tmp 11) rfl rfl V10.out agg_apisum HVV.out ?_) | (refine wpg_cmp rfl .eql _ _ _ _ rfl rfl rfl guard_sum HEZ.out ?_))
    refine (hdf.out gk w10 O10.out K10.out (fun z hz => by have := (hob5.out z hz).2; omega)).mono ?_
    rintro e w11 ⟨rfl, own11, gr11⟩
    rw [HM1.out] at own11 ⊢
    have K11 := hid (K10.out.grown gr11 (fun he => by have := (hob5.out _ he.symm).2; omega))
    have V11 := hid (V10.out.grown gr11 (fun he => by have := (hob5.out _ he.symm).2; have := HGV'.out; omega))
    have S11 := hid (S10.out.grown gr11 (fun he => by have := (hob5.out _ he.symm).2; omega))
    have M11 := hid (M10.out.grown gr11 (fun he => by have := (hob5.out _ he.symm).1; omega) (fun he => by have := (hob5.out _ he.symm).1; omega))
    have E11 := hid (E10.out.grown gr11 (fun q hq => by have := (hob5.out _ hq).1; omega))
    have hB11 : w.heap.size ≤ w11.heap.size := E11.out.size
    have hxb : (Value.slice ha m hcp).ownBlock = (Value.slice ha hs.length hcp).ownBlock := by cases ha <;> rfl
    have hob6 : Hid (∀ z, (Value.slice ha m hcp).ownBlock = some z → B ≤ z ∧ z < gk) := hid (fun z hz => hob5.out z (hxb ▸ hz))
    clear hxb
    have O12 := hid (ownsRow_ext (own_lower own11 hBw) ((Ext.refl w11).alloc (.cells (en.map u8v).toArray 51)))
    have N12 : Hid (Blk (w11.alloc (.cells (en.map u8v).toArray 51)) w11.heap.size (en.map u8v) 51) := hid (Blk.mk_alloc rfl rfl)
    have e12 : Ext w11 (w11.alloc (.cells (en.map u8v).toArray 51)) := (Ext.refl w11).alloc _
    have hb12 : w.heap.size ≤ (w11.alloc (.cells (en.map u8v).toArray 51)).heap.size := Nat.le_trans hB11 e12.size
    have K12 := hid (K11.out.ext e12)
    have V12 := hid (V11.out.ext e12)
    have S12 := hid (S11.out.ext e12)
    have M12 := hid (M11.out.ext e12)
    have E12 := hid (E11.out.ext e12)
    clear e12 own11 gr11 K10 V10 S10 M10 O10 E10 M11 S11 E11 hdf
    go_wp2_with (first | (refine wpl_loadw rfl 32 (.tmp 10) rfl rfl K11.out agg_apisum HKV.out ?_) | (refine wpl_loadw rfl 32 (.tmp 11) rfl rfl V11.out agg_apisum HVV.out ?_) | (refine wpl_run rfl (exec_entryZ HEN.out rfl rfl rfl HK32.out HV32.out _) ?_) | (refine wpl_buildEntry rfl rfl rfl HEL.out ?_) | (at_builtin; refine wpl_append_entry rfl _ _ rfl w.heap.size rfl rfl O12.out HEL.out N12.out (by omega) hb12 ?_))
    intro v13 w13 own13 gr13
    obtain ⟨a2, c2, rfl, -, -, -, hcl13⟩ := own_sliceT (by decide) own13
    have C13 := hid hcl13
    have K13 := hid (K12.out.grown gr13 (fun he => by have := (hob6.out _ he.symm).2; omega))
    have V13 := hid (V12.out.grown gr13 (fun he => by have := (hob6.out _ he.symm).2; have := HGV'.out; omega))
    have S13 := hid (S12.out.grown gr13 (fun he => by have := (hob6.out _ he.symm).2; omega))
    have M13 := hid (M12.out.grown gr13 (fun he => by have := (hob6.out _ he.symm).1; omega) (fun he => by have := (hob6.out _ he.symm).1; omega))
    have E13 := hid (E12.out.grown gr13 (fun q hq => by have := (hob6.out _ hq).1; omega))
    clear hcl13 own13 gr13 K12 V12 S12 M12 E12 O12 N12 K11 V11
    go_wp2_with fail
    refine (hmr.out a2 c2 w13 C13.out).mono ?_
    rintro e w14 ⟨rfl, e14⟩
    have K14 := hid (K13.out.ext e14)
    have V14 := hid (V13.out.ext e14)
    have S14 := hid (S13.out.ext e14)
    have M14 := hid (M13.out.ext e14)
    have E14 := hid (E13.out.ext e14)
    clear e14 K13 V13 S13 M13 E13 C13 hmr
    go_wp2_with (first | (refine wpl_storew rfl _ (.tmp 16) _ rfl rfl rfl (Blk.mk_alloc (vs := List.replicate 32 (.int .u8 0)) rfl rfl) agg_apisum (by simp) HRNV.out oRn ?_))
    intro w15 b15 u15
    have e15 : Ext w14 w15 := u15.ext ((Ext.refl w14).alloc _) (Nat.le_refl _)
    have V15 := hid (V14.out.ext e15)
    have K15 := hid (K14.out.ext e15)
    have M15 := hid (M14.out.ext e15)
    have S15 := hid (S14.out.ext e15)
    have E15 := hid (E14.out.ext e15)
    have R15 := hid b15
    have hx1 : gk < w14.heap.size := K14.out.lt
    have hx2 : gv < w14.heap.size := V14.out.lt
    have hx3 : gs < w14.heap.size := S14.out.lt
    clear b15 u15 e15 V14 K14 M14 E14 S14
    generalize hgr : w14.heap.size = gr at *
    clear hgr
    go_wp2_with fail
    obtain ⟨C, hC⟩ : ∃ C : World → Prop, C = Cls w w15 [gk, gv, gs, gr] [] := ⟨_, rfl⟩
    have hC0 : ∀ w', C w' ↔ Cls w w15 [gk, gv, gs, gr] [] w' := fun w' => by rw [hC]
    clear hC
    have HCC := hid hC0
    clear hC0
    have hCx : ∀ w w', C w → Ext w w' → C w' := fun w w' h1 h2 => (HCC.out w').2 (((HCC.out w).1 h1).ext h2)
    have hCA : C w15 := (HCC.out _).2 (Cls.no_room E15.out (Kept.four K15.out.lt V15.out.lt S15.out.lt R15.out.lt))
    refine wp_region_held_drew (S := C) (by kernel_rfl) (hCx _ _ hCA (Ext.refl _).drew) (fun hS0 => ?_)
    refine held_take 0 (v := ?tv7) rfl (by kernel_rfl) (by kernel_rfl) (by kernel_rfl) (fun _ _ _ h => h) (.inl ⟨rfl, ?ty7⟩) hS0 ?tr7
    case ty7 => (intro _ _; go_simp; try with_reducible rfl)
    case tr7 =>
    simp only [Act.put, List.setIfInBounds_toArray, List.set_cons_succ, List.set_cons_zero]
    refine held_take 1 (v := ?tv8) rfl (by kernel_rfl) (by kernel_rfl) (by kernel_rfl) (fun _ _ _ h => h) (.inl ⟨rfl, ?ty8⟩) hS0 ?tr8
    case ty8 => (intro _ _; go_simp; try with_reducible rfl)
    case tr8 =>
    simp only [Act.put, List.setIfInBounds_toArray, List.set_cons_succ, List.set_cons_zero]
    refine held_take 2 (v := ?tv9) rfl (by kernel_rfl) (by kernel_rfl) (by kernel_rfl) (fun _ _ _ h => h) (.inl ⟨rfl, ?ty9⟩) hS0 ?tr9
    case ty9 => (intro _ _; go_simp; try with_reducible rfl)
    case tr9 =>
    simp only [Act.put, List.setIfInBounds_toArray, List.set_cons_succ, List.set_cons_zero]
    refine held_take 3 (v := _) rfl (by kernel_rfl) (by kernel_rfl) (by kernel_rfl) (fun _ _ _ h => h) (yieldsI_loadw rfl 32 _ rfl rfl (fun w1 h => ((HCC.out w1).1 h).blk S15.out (by simp)) agg_apisum HSV.out) hS0 ?_
    simp only [Act.put, List.setIfInBounds_toArray, List.set_cons_succ, List.set_cons_zero]
    refine held_take 4 (v := _) rfl (by kernel_rfl) (by kernel_rfl) (by kernel_rfl) (fun _ _ _ h => h) (yieldsI_loadw rfl 32 _ rfl rfl (fun w1 h => ((HCC.out w1).1 h).blk R15.out (by simp)) agg_apisum HRNV.out) hS0 ?_
    simp only [Act.put, List.setIfInBounds_toArray, List.set_cons_succ, List.set_cons_zero]
    refine held_take 5 (v := _) rfl (by kernel_rfl) (by kernel_rfl) (by kernel_rfl) (fun _ _ _ h => h) (yieldsI_run rfl (fun w1 _ => exec_cmp rfl rfl rfl guard_sum HNN.out w1)) hS0 ?_
    simp only [Act.put, List.setIfInBounds_toArray, List.set_cons_succ, List.set_cons_zero]
    refine held_take 6 (v := ?tv10) rfl (by kernel_rfl) (by kernel_rfl) (by kernel_rfl) (fun _ _ _ h => h) (.inl ⟨rfl, ?ty10⟩) hS0 ?tr10
    case ty10 => (intro _ _; go_simp; try with_reducible rfl)
    case tr10 =>
    simp only [Act.put, List.setIfInBounds_toArray, List.set_cons_succ, List.set_cons_zero]
    refine held_take 7 (v := ?tv11) rfl (by kernel_rfl) (by kernel_rfl) (by kernel_rfl) (fun _ _ _ h => h) (.inl ⟨rfl, ?ty11⟩) hS0 ?tr11
    case ty11 => (intro _ _; go_simp; try with_reducible rfl)
    case tr11 =>
    simp only [Act.put, List.setIfInBounds_toArray, List.set_cons_succ, List.set_cons_zero]
    refine held_take 8 (v := ?tv12) rfl (by kernel_rfl) (by kernel_rfl) (by kernel_rfl) (fun _ _ _ h => h) (.inl ⟨rfl, ?ty12⟩) hS0 ?tr12
    case ty12 => (intro _ _; go_simp; try with_reducible rfl)
    case tr12 =>
    simp only [Act.put, List.setIfInBounds_toArray, List.set_cons_succ, List.set_cons_zero]
    refine held_take 9 (v := _) rfl (by kernel_rfl) (by kernel_rfl) (by kernel_rfl) (fun _ _ _ h => h) (yieldsI_loadw rfl 32 _ rfl rfl (fun w1 h => ((HCC.out w1).1 h).blk K15.out (by simp)) agg_apisum HKV.out) hS0 ?_
    simp only [Act.put, List.setIfInBounds_toArray, List.set_cons_succ, List.set_cons_zero]
    refine held_take 10 (v := _) rfl (by kernel_rfl) (by kernel_rfl) (by kernel_rfl) (fun _ _ _ h => h) (yieldsI_loadw rfl 32 _ rfl rfl (fun w1 h => ((HCC.out w1).1 h).blk V15.out (by simp)) agg_apisum HVV.out) hS0 ?_
    simp only [Act.put, List.setIfInBounds_toArray, List.set_cons_succ, List.set_cons_zero]
    have MD := hid (M15.out.ext (Ext.refl w15).drew)
    generalize w15.drew = wD at *
    refine held_one (i := 11) (by kernel_rfl) rfl ?_
    intro Q' hQ
    go_wp2_with fail
    refine (hset.out wD MD.out).mono ?_
    rintro e wE ⟨rfl, tm, gr⟩
    have hE : C wE := (HCC.out wE).2 (((HCC.out wD).1 hS0).grownL gr (by intro q hq; cases hq; simp only [List.mem_cons, List.not_mem_nil, or_false, not_or]; refine ⟨by omega, by omega, by omega, by omega⟩) (by intro q hq; cases hq; exact hgw))
    have ME := hid tm
    go_wp2_with fail
    refine hQ _ _ hE ?_
    clear hQ Q' hS0 gr tm MD
    have hS0 := hE
    clear hE
    try dsimp only
    try simp only [Act.put, List.setIfInBounds_toArray, List.set_cons_succ, List.set_cons_zero]
    refine held_take 12 (v := ?tv13) rfl (by kernel_rfl) (by kernel_rfl) (by kernel_rfl) (fun _ _ _ h => h) (.inl ⟨rfl, ?ty13⟩) hS0 ?tr13
    case ty13 => (intro _ _; go_simp; try with_reducible rfl)
    case tr13 =>
    simp only [Act.put, List.setIfInBounds_toArray, List.set_cons_succ, List.set_cons_zero]
    refine held_take 13 (v := ?tv14) rfl (by kernel_rfl) (by kernel_rfl) (by kernel_rfl) (fun _ _ _ h => h) (.inl ⟨rfl, ?ty14⟩) hS0 ?tr14
    case ty14 => (intro _ _; go_simp; try with_reducible rfl)
    case tr14 =>
    simp only [Act.put, List.setIfInBounds_toArray, List.set_cons_succ, List.set_cons_zero]
    refine held_take 14 (v := ?tv15) rfl (by kernel_rfl) (by kernel_rfl) (by kernel_rfl) (fun _ _ _ h => h) (.inl ⟨rfl, ?ty15⟩) hS0 ?tr15
    case ty15 => (intro _ _; go_simp; try with_reducible rfl)
    case tr15 =>
    simp only [Act.put, List.setIfInBounds_toArray, List.set_cons_succ, List.set_cons_zero]
    refine held_take 15 (v := ?tv16) rfl (by kernel_rfl) (by kernel_rfl) (by kernel_rfl) (fun _ _ _ h => h) (.inl ⟨rfl, ?ty16⟩) hS0 ?tr16
    case ty16 => (intro _ _; go_simp; try with_reducible rfl)
    case tr16 =>
    simp only [Act.put, List.setIfInBounds_toArray, List.set_cons_succ, List.set_cons_zero]
    refine held_take 17 (v := _) rfl (by kernel_rfl) (by kernel_rfl) (by kernel_rfl) (fun _ _ _ h => h) (yieldsI_loadw rfl 32 _ rfl rfl (fun w1 h => ((HCC.out w1).1 h).blk R15.out (by simp)) agg_apisum HRNV.out) hS0 ?_
    simp only [Act.put, List.setIfInBounds_toArray, List.set_cons_succ, List.set_cons_zero]
    refine held_one (i := 16) (by kernel_rfl) rfl ?_
    intro Q' hQ
    go_wp2_with fail
    refine (hrs.out wE ME.out).mono ?_
    rintro e wF ⟨rfl, eF⟩
    have hF : C wF := hCx _ _ hS0 eF
    go_wp2_with fail
    refine hQ _ _ hF ?_
    clear hQ Q' hS0 eF ME
    have hS0 := hF
    clear hF
    try dsimp only
    try simp only [Act.put, List.setIfInBounds_toArray, List.set_cons_succ, List.set_cons_zero]
    refine held_take 18 (v := _) rfl (by kernel_rfl) (by kernel_rfl) (by kernel_rfl) (fun _ _ _ h => h) (yieldsI_run rfl (fun w1 _ => exec_cmp rfl rfl rfl guard_sum HNN.out w1)) hS0 ?_
    simp only [Act.put, List.setIfInBounds_toArray, List.set_cons_succ, List.set_cons_zero]
    refine held_take 19 (v := ?tv17) rfl (by kernel_rfl) (by kernel_rfl) (by kernel_rfl) (fun _ _ _ h => h) (.inl ⟨rfl, ?ty17⟩) hS0 ?tr17
    case ty17 => (intro _ _; go_simp; try with_reducible rfl)
    case tr17 =>
    simp only [Act.put, List.setIfInBounds_toArray, List.set_cons_succ, List.set_cons_zero]
    refine held_take 20 (v := ?tv18) rfl (by kernel_rfl) (by kernel_rfl) (by kernel_rfl) (fun _ _ _ h => h) (.inl ⟨rfl, ?ty18⟩) hS0 ?tr18
    case ty18 => (intro _ _; go_simp; try with_reducible rfl)
    case tr18 =>
    simp only [Act.put, List.setIfInBounds_toArray, List.set_cons_succ, List.set_cons_zero]
    refine wpAnyH_done (by kernel_rfl) ?_ _
    have EG := hid ((HCC.out _).1 hS0).base
    clear hS0
    go_wp2_with fail
    go_ret
    exact ⟨rfl, EG.out⟩
end

section
open Go Go.RowKit Go.ChangeShapes Go.WideShapes Go.ChangeAt Go.Deep

theorem cells?_at {w : World} {base : Nat} {p : Addr} {k : Nat} {cs : List Value} (h : w.cells? base p k = some cs) : cs.length = k ∧ CellsAt w p cs := by
  unfold World.cells? at h
  split at h
  · refine ⟨by simpa using mapM_some_length h, fun j u hu => ?_⟩
    have hj : j < k := by
      have h1 := (List.getElem?_eq_some_iff.1 hu).1
      have h2 := mapM_some_length h
      simp at h2; omega
    have := mapM_some_get h j j (by simp [hj])
    rw [hu] at this
    exact this
  · cases h

section
variable {H : Type} {enc : TypeId × Value → H} {P : Program} {w : World}
theorem octets_of_trod {base : Nat} {sp : Nat → Bool} {held : Bool} {t e : TypeId} {n f : Nat} {cs : List Value} {x : DataW H × List MemPlace} (ht : P.underlying t = some (.array n e)) (he : P.underlying e = some (.int .u8)) (hce : P.cellsOf e = 1) (hct : P.cellsOf t = n)
    (hf : DataW.trod enc P w base sp held f t cs = some x) : ∃ l : List UInt8, l.length = n ∧ cs = l.map u8v := by
  obtain ⟨xs, m, _, _, hlen, hxl, hel⟩ := DataW.trod_array ht hf
  have hcl : cs.length = n := by rw [hlen, hct]
  obtain ⟨l, hl⟩ := u8s_of cs fun i u hu => by
    have hi : i < n := by
      have := (List.getElem?_eq_some_iff.1 hu).1
      omega
    have h1 := hel i hi
    rw [hce, Nat.mul_one] at h1
    have hx : xs[i]? = some xs[i] := by simp
    have h2 : (cs.drop i).take 1 = [u] := by
      have h3 := List.getElem?_drop (xs := cs) (i := i) (j := 0)
      rw [Nat.add_zero, hu] at h3
      cases hd : cs.drop i with
      | nil => rw [hd] at h3; simp at h3
      | cons y r => rw [hd] at h3; simp at h3; simp [h3]
    have h4 : DataW.trod enc P w base sp held m e [u] = some xs[i] := by
      rw [← h2, ← hx]; exact h1
    obtain ⟨k, hk, _, hw⟩ := DataW.trod_int he h4
    have hu' : u = .int .u8 k := by simpa using hk
    rw [hu']; exact u8_of hw
  refine ⟨l, ?_, hl⟩
  have := congrArg List.length hl
  rw [hcl, List.length_map] at this; exact this.symm

/-- a slice of rows, its cell read -/
theorem sums_of_trod {base f : Nat} {held : Bool} {t e q : TypeId} {cs : List Value} {x : DataW H × List MemPlace} (ht : P.underlying t = some (.slice e)) (he : P.underlying e = some (.array 32 q)) (hq : P.underlying q = some (.int .u8)) (cq : P.cellsOf q = 1) (ce : P.cellsOf e = 32)
    (hf : DataW.trod enc P w base (fun _ => true) held f t cs = some x) :
    ∃ (a : Option Addr) (n c : Nat) (ls : List (List UInt8)) (es sp : List (DataW H)), cs = [.slice a n c] ∧ ls.length = n ∧ All32 ls ∧ n ≤ c ∧ c ≤ maxLen ∧ (a = none → c = 0) ∧ Cells w a (rows ls) ∧ ((x.1 = .nil ∧ c = 0) ∨ (x.1 = .slice es sp ∧ es.length + sp.length = c)) := by
  rcases DataW.trod_slice ht hf with ⟨h0, h1⟩ | ⟨a, len, cap, elems, rest, n, _, rfl, rfl, hb, hl, hm, hlen, hel, hsp, hns⟩
  · exact ⟨none, 0, 0, [], [], [], h0, rfl, All32.nil, Nat.le_refl _, Nat.zero_le _, fun _ => rfl, .inl rfl, .inl ⟨by rw [h1], rfl⟩⟩
  · have each : ∀ i, i < len → ∃ l : List UInt8, l.length = 32 ∧ CellsAt w (a.add (i * 32)) (l.map u8v) := by
      intro i hi
      have h1 := hel i hi
      have hx : elems[i]? = some (elems[i]'(by omega)) := by simp
      rw [ce, hx, Option.bind_eq_some_iff] at h1
      obtain ⟨cs', hcs, hy⟩ := h1
      obtain ⟨l, hl1, rfl⟩ := octets_of_trod he hq cq ce hy
      exact ⟨l, hl1, (cells?_at hcs).2⟩
    obtain ⟨g, hg⟩ := choose_lt each
    have h32 : All32 ((List.range len).map g) := fun l hl => by
      obtain ⟨i, hi, rfl⟩ := List.mem_map.1 hl
      exact (hg i (List.mem_range.1 hi)).1
    obtain ⟨hrl, _⟩ := hsp rfl
    refine ⟨some a, len, cap, (List.range len).map g, _, _, rfl, by simp, h32, hl, hm, (fun h => by cases h), ?_, .inr ⟨rfl, by simp; omega⟩⟩
    by_cases h0 : len = 0
    · left; subst h0; rfl
    · obtain ⟨hl0, hc0⟩ := hg 0 (by omega)
      obtain ⟨b, off, spot⟩ := a
      have hspot : spot = none := by
        have := hc0 0 (u8v ((g 0)[0]'(by omega))) (by simp [hl0])
        simpa [Addr.add] using World.cell?_spot this
      subst hspot
      refine .inr ⟨b, off, rfl, fun i u hu => ?_⟩
      have hi : i < 32 * len := by
        have := (List.getElem?_eq_some_iff.1 hu).1
        rw [rows_length h32] at this; simpa using this
      obtain ⟨_, hcr⟩ := hg (i / 32) (by omega)
      have hrow : ((List.range len).map g)[i / 32]? = some (g (i / 32)) := by
        rw [List.getElem?_map, List.getElem?_range (by omega)]; rfl
      have h2 := rows_at h32 hrow
      have h3 : ((g (i / 32)).map u8v)[i % 32]? = some u := by
        rw [← h2, List.getElem?_take_of_lt (Nat.mod_lt _ (by omega)), List.getElem?_drop, Nat.div_add_mod]; exact hu
      have h4 := hcr _ _ h3
      rw [addr_add, addr_add] at h4
      rw [show off + i / 32 * 32 + i % 32 = off + i by omega] at h4
      exact h4

/-- a struct of two ints and a slice of rows -/
theorem open_proof {r : Reach} {b0 base : Nat} {held : Bool} {t e q : TypeId} {f0 f1 f2 : Field} {v : Value} {d : DataW H} {ps : List MemPlace} (ht : P.underlying t = some (.struct #[f0, f1, f2])) (h0 : P.underlying f0.type = some (.int .i64)) (h1 : P.underlying f1.type = some (.int .i64))
    (h2 : P.underlying f2.type = some (.slice e)) (he : P.underlying e = some (.array 32 q)) (hq : P.underlying q = some (.int .u8)) (cq : P.cellsOf q = 1) (ce : P.cellsOf e = 32) (c0 : P.cellsOf f0.type = 1) (c1 : P.cellsOf f1.type = 1) (c2 : P.cellsOf f2.type = 1) (ct : P.cellsOf t = 3)
    (o0 : f0.offset = 0) (o1 : f1.offset = 1) (o2 : f2.offset = 2)
    (hval : Value.okWide P w r b0 t v) (hd : DataW.Trod enc P w base (fun _ => true) held t v d ps) :
    ∃ (I Z : Int) (a : Option Addr) (n c : Nat) (ls : List (List UInt8)), v = .agg #[.int .i64 I, .int .i64 Z, .slice a n c] ∧ ls.length = n ∧ All32 ls ∧ n ≤ c ∧ c ≤ maxLen ∧ (a = none → c = 0) ∧ Cells w a (rows ls) ∧
      ∃ (D : DataW H) (es sp : List (DataW H)), d = .agg [.lit (.int .i64 I), .lit (.int .i64 Z), D] ∧ ((D = .nil ∧ c = 0) ∨ (D = .slice es sp ∧ es.length + sp.length = c)) ∧ (Lit.int .i64 I).wf = true ∧ (Lit.int .i64 Z).wf = true := by
  obtain ⟨cs, rfl, hs⟩ := okWide_struct ht hval
  obtain ⟨fuel, hf⟩ := hd
  obtain ⟨y0, y1, y2, m, hx, hl, g0, g1, g2⟩ := trod_struct3 ht hf
  rw [c0, o0] at g0
  rw [c1, o1] at g1
  rw [c2, o2] at g2
  obtain ⟨I, hI, hI2, wI⟩ := DataW.trod_int h0 g0
  obtain ⟨Z, hZ, hZ2, wZ⟩ := DataW.trod_int h1 g1
  obtain ⟨a, n, c, ls, es, sp, hsl, hln, h32, hnc, hcm, hnil, hcl, hdd⟩ := sums_of_trod h2 he hq cq ce g2
  have hcs : cs = #[.int .i64 I, .int .i64 Z, .slice a n c] := by
    have hsz : cs.size = 3 := by rw [hs, ct]
    obtain ⟨l⟩ := cs
    match l, hsz with
    | [p0, p1, p2], _ =>
      simp [Value.cells] at hI hZ hsl
      rw [hI, hZ, hsl]
  refine ⟨I, Z, a, n, c, ls, by rw [hcs], hln, h32, hnc, hcm, hnil, hcl, y2.1, es, sp, ?_, hdd, wI, wZ⟩
  simp only [Prod.mk.injEq] at hx
  rw [hx.1, hI2, hZ2]
end
end

section
open Go Go.RowKit Go.ChangeShapes Go.WideShapes Go.ChangeAt Go.Deep

instance : Inhabited StepR := ⟨⟨0, 0, 0⟩⟩
section
variable {H : Type} {enc : TypeId × Value → H} {P : Program} {w : World}
theorem steps_of_trod {base f : Nat} {held : Bool} {t e : TypeId} {f0 f1 f2 : Field} {cs : List Value} {x : DataW H × List MemPlace} (ht : P.underlying t = some (.slice e)) (he : P.underlying e = some (.struct #[f0, f1, f2])) (h0 : P.underlying f0.type = some (.int .i64)) (h1 : P.underlying f1.type = some (.int .i64)) (h2 : P.underlying f2.type = some (.int .i64))
    (c0 : P.cellsOf f0.type = 1) (c1 : P.cellsOf f1.type = 1) (c2 : P.cellsOf f2.type = 1) (ce : P.cellsOf e = 3) (o0 : f0.offset = 0) (o1 : f1.offset = 1) (o2 : f2.offset = 2)
    (hf : DataW.trod enc P w base (fun _ => true) held f t cs = some x) :
    ∃ (a : Option Addr) (n c : Nat) (ls : List StepR), cs = [.slice a n c] ∧ ls.length = n ∧ n ≤ c ∧ c ≤ maxLen ∧ Cells w a (stepsV ls) := by
  rcases DataW.trod_slice ht hf with ⟨hh0, hh1⟩ | ⟨a, len, cap, elems, rest, n, _, rfl, rfl, hb, hl, hm, hlen, hel, hsp, hns⟩
  · exact ⟨none, 0, 0, [], hh0, rfl, Nat.le_refl _, Nat.zero_le _, .inl rfl⟩
  · have each : ∀ i, i < len → ∃ s : StepR, CellsAt w (a.add (i * 3)) s.c := by
      intro i hi
      have hh1 := hel i hi
      have hx : elems[i]? = some (elems[i]'(by omega)) := by simp
      rw [ce, hx, Option.bind_eq_some_iff] at hh1
      obtain ⟨cs', hcs, hy⟩ := hh1
      obtain ⟨y0, y1, y2, m, hxx, hll, g0, g1, g2⟩ := trod_struct3 he hy
      rw [c0, o0] at g0
      rw [c1, o1] at g1
      rw [c2, o2] at g2
      obtain ⟨I, hI, _, _⟩ := DataW.trod_int h0 g0
      obtain ⟨J, hJ, _, _⟩ := DataW.trod_int h1 g1
      obtain ⟨K, hK, _, _⟩ := DataW.trod_int h2 g2
      refine ⟨⟨I, J, K⟩, ?_⟩
      obtain ⟨hl3, hca⟩ := cells?_at hcs
      have hcs3 : cs' = StepR.c ⟨I, J, K⟩ := by
        match cs', hl3 with
        | [p0, p1, p2], _ =>
          simp at hI hJ hK
          rw [hI, hJ, hK]; rfl
      rw [← hcs3]; exact hca
    obtain ⟨g, hg⟩ := choose_lt (p := fun i s => CellsAt w (a.add (i * 3)) (StepR.c s)) each
    refine ⟨some a, len, cap, (List.range len).map g, rfl, by simp, hl, hm, ?_⟩
    by_cases hz : len = 0
    · left; subst hz; rfl
    · have hc0 := hg 0 (by omega)
      obtain ⟨b, off, spot⟩ := a
      have hspot : spot = none := by
        have := hc0 0 (.int .i64 (g 0).kind) rfl
        simpa [Addr.add] using World.cell?_spot this
      subst hspot
      refine .inr ⟨b, off, rfl, fun i u hu => ?_⟩
      have hi : i < 3 * len := by
        have := (List.getElem?_eq_some_iff.1 hu).1
        rw [stepsV_length] at this; simpa using this
      have hcr := hg (i / 3) (by omega)
      have hrow : ((List.range len).map g)[i / 3]? = some (g (i / 3)) := by
        rw [List.getElem?_map, List.getElem?_range (by omega)]; rfl
      have h3 : (StepR.c (g (i / 3)))[i % 3]? = some u := by
        rw [← stepsV_at hrow (Nat.mod_lt _ (by omega)), Nat.mul_comm, Nat.div_add_mod]; exact hu
      have h4 := hcr _ _ h3
      rw [addr_add, addr_add] at h4
      rw [show off + i / 3 * 3 + i % 3 = off + i by omega] at h4
      exact h4
theorem open_steps {r : Reach} {b0 base : Nat} {held : Bool} {t e : TypeId} {f0 f1 f2 : Field} {v : Value} {d : DataW H} {ps : List MemPlace} (ht : P.underlying t = some (.slice e)) (he : P.underlying e = some (.struct #[f0, f1, f2])) (h0 : P.underlying f0.type = some (.int .i64)) (h1 : P.underlying f1.type = some (.int .i64)) (h2 : P.underlying f2.type = some (.int .i64))
    (c0 : P.cellsOf f0.type = 1) (c1 : P.cellsOf f1.type = 1) (c2 : P.cellsOf f2.type = 1) (ce : P.cellsOf e = 3) (o0 : f0.offset = 0) (o1 : f1.offset = 1) (o2 : f2.offset = 2)
    (hval : Value.okWide P w r b0 t v) (hd : DataW.Trod enc P w base (fun _ => true) held t v d ps) :
    ∃ (a : Option Addr) (n c : Nat) (ls : List StepR), v = .slice a n c ∧ ls.length = n ∧ n ≤ c ∧ c ≤ maxLen ∧ Cells w a (stepsV ls) := by
  obtain ⟨a, n, c, rfl⟩ := okWide_slice ht hval
  obtain ⟨fuel, hf⟩ := hd
  obtain ⟨a2, n2, c2', ls, hcs, hl, hnc, hcm, hcl⟩ := steps_of_trod ht he h0 h1 h2 c0 c1 c2 ce o0 o1 o2 hf
  simp [Value.cells] at hcs
  obtain ⟨rfl, rfl, rfl⟩ := hcs
  exact ⟨a, n, c, ls, rfl, hl, hnc, hcm, hcl⟩
end
end
end Go.Proofs.Ytkcjdginoccgjaa
