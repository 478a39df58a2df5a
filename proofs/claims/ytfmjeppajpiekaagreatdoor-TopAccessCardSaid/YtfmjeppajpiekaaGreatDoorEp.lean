/- Entries and their records, in plain words: encoding and decoding invert each other; no record begins another. No program in sight. -/
import Derived.Test.YtfmjeppajpiekaaGreatDoorVpD
import Derived.Test.YtfmjeppajpiekaaGreatDoorEk
namespace Go.Proofs.YtfmjeppajpiekaaGreatDoor
set_option maxHeartbeats 1600000
set_option maxRecDepth 8000
/-- an entry with its two lists -/
abbrev Fu := En × List Int × List Gr
theorem sameE_eq (e f : En) (l1 l2 : List Int) (g1 g2 : List Gr) : sameE e f l1 l2 g1 g2 = true ↔ e = f ∧ l1 = l2 ∧ g1 = g2 := by
  constructor
  · intro h
    unfold sameE datEq at h
    simp only [Bool.and_eq_true, beq_iff_eq, decide_eq_true_eq, tl_inj] at h
    cases e; cases f
    simp only [En.mk.injEq]
    simp only at h
    simp_all
  · rintro ⟨rfl, rfl, rfl⟩
    unfold sameE datEq
    simp
def okD (e : En) (l2 : List Int) (g2 : List Gr) : Bool := Ds.name (Ds.bl e.name) && Vp.dat e l2 && sameE (onlyD e) e l2 l2 [] g2
def okP (e : En) (l2 : List Int) (g2 : List Gr) : Bool := Ds.pat (Ds.bl e.name) && Vp.prof e g2 && sameE (onlyP e) e [] l2 g2 g2
/-- is an entry valid? -/
def okX (x : Fu) : Bool :=
  if x.1.kind = 0 then okD x.1 x.2.1 x.2.2 else if x.1.kind = 1 then okG x.1 x.2.1 x.2.2 else if x.1.kind = 2 then okA x.1 x.2.1 x.2.2 else if x.1.kind = 3 then okC x.1 x.2.1 x.2.2 else if x.1.kind = 4 then okP x.1 x.2.1 x.2.2 else false
/-- its fields, written -/
def bodyX (x : Fu) : List UInt8 :=
  if x.1.kind = 0 then bodyDx x.1 x.2.1 else if x.1.kind = 1 then bodyG x.1 else if x.1.kind = 2 then bodyA x.1 else if x.1.kind = 3 then bodyC x.1 else bodyP x.1 x.2.2
def keyX (x : Fu) : List UInt8 := Ek.key x.1.kind (Ds.bl x.1.name)
/-- its record -/
def recX (x : Fu) : List UInt8 := keyX x ++ bodyX x
/-- an entry as it is read -/
def En.base (k : Int) (n : ByteArray) : En := { En.zero with kind := k, name := n }
def rdX (k : Int) (n : ByteArray) (s : List UInt8 × Nat) : Fu × (List UInt8 × Nat) :=
  if k = 0 then (((rdData (En.base k n) s).1, (rdData (En.base k n) s).2.1, []), (rdData (En.base k n) s).2.2)
  else if k = 1 then (((rdGroup (En.base k n) s).1, [], []), (rdGroup (En.base k n) s).2)
  else if k = 2 then (((rdAlias (En.base k n) s).1, [], []), (rdAlias (En.base k n) s).2)
  else if k = 3 then (((rdCat (En.base k n) s).1, [], []), (rdCat (En.base k n) s).2)
  else (((rdProf (En.base k n) s).1, [], (rdProf (En.base k n) s).2.1), (rdProf (En.base k n) s).2.2)
theorem okX_kind (x : Fu) (h : okX x = true) : 0 ≤ x.1.kind ∧ x.1.kind ≤ 4 := by
  unfold okX at h
  repeat' split at h
  all_goals first | omega | cases h
theorem rd_bodyG' (e : En) (r : List UInt8) (h : Vp.grp e = true) : rdGroup (En.base e.kind e.name) (bodyG e ++ r, 0) = (onlyG e, (r, 0)) := by
  unfold Vp.grp at h
  simp only [Bool.and_eq_true] at h
  obtain ⟨⟨h1, h2⟩, h3⟩ := h
  have r1 := rng1 _ _ _ h1
  have r2 := rng1 _ _ _ h2
  have r3 := own_len _ h3
  have e1 : bodyG e ++ r = Wi.enc e.lim.toNat ++ (Wi.enc e.last.toNat ++ (tb e.em :: (Wi.enc (Ds.bl e.owner).length ++ (Ds.bl e.owner ++ r)))) := by
    unfold bodyG encs encs encs; rw [Ds.bl_length]; simp
  unfold rdGroup onlyG
  rw [e1]
  simp only
  rw [Rd.num_enc _ _ (by omega)]
  simp only
  rw [Rd.num_enc _ _ (by omega)]
  simp only
  rw [show tb e.em = (if e.em then 1 else 0) from rfl, Rd.boo_tb]
  simp only
  rw [Rd.txt_enc 200 _ _ (by omega) (by omega)]
  simp only
  rw [clip_id _ (by omega), clip_id _ (by omega), Ds.mk_bl, Int.toNat_of_nonneg (by omega), Int.toNat_of_nonneg (by omega)]
  rfl
/-- what was written of a valid entry is read again -/
theorem rd_bodyX (x : Fu) (r : List UInt8) (h : okX x = true) : rdX x.1.kind x.1.name (bodyX x ++ r, 0) = (x, (r, 0)) := by
  obtain ⟨e, l, g⟩ := x
  unfold okX at h
  unfold rdX bodyX
  simp only at h ⊢
  split at h
  · rename_i k
    rw [if_pos k, if_pos k]
    unfold okD at h
    simp only [Bool.and_eq_true] at h
    obtain ⟨⟨_, h2⟩, h3⟩ := h
    obtain ⟨q1, -, q3⟩ := (sameE_eq _ _ _ _ _ _).1 h3
    rw [show En.base e.kind e.name = ({ En.zero with kind := e.kind, name := e.name } : En) from rfl, rd_bodyD e l r (dat_ok e l h2).1, q1, ← q3]
  · rename_i k0
    rw [if_neg k0, if_neg k0]
    split at h
    · rename_i k
      rw [if_pos k, if_pos k]
      unfold okG at h
      simp only [Bool.and_eq_true] at h
      obtain ⟨⟨_, h2⟩, h3⟩ := h
      obtain ⟨q1, q2, q3⟩ := (sameE_eq _ _ _ _ _ _).1 h3
      rw [rd_bodyG' e r h2, q1, ← q2, ← q3]
    · rename_i k1
      rw [if_neg k1, if_neg k1]
      split at h
      · rename_i k
        rw [if_pos k, if_pos k]
        unfold okA at h
        simp only [Bool.and_eq_true] at h
        obtain ⟨⟨_, h2⟩, h3⟩ := h
        obtain ⟨q1, q2, q3⟩ := (sameE_eq _ _ _ _ _ _).1 h3
        have := ali_size e h2
        rw [show En.base e.kind e.name = ({ En.zero with kind := e.kind, name := e.name } : En) from rfl, rd_bodyA e r (by omega), q1, ← q2, ← q3]
      · rename_i k2
        rw [if_neg k2, if_neg k2]
        split at h
        · rename_i k
          rw [if_pos k, if_pos k]
          unfold okC at h
          simp only [Bool.and_eq_true] at h
          obtain ⟨⟨_, h2⟩, h3⟩ := h
          obtain ⟨q1, q2, q3⟩ := (sameE_eq _ _ _ _ _ _).1 h3
          rw [show En.base e.kind e.name = ({ En.zero with kind := e.kind, name := e.name } : En) from rfl, rd_bodyC e r h2, q1, ← q2, ← q3]
        · rename_i k3
          rw [if_neg k3, if_neg k3]
          split at h
          · unfold okP at h
            simp only [Bool.and_eq_true] at h
            obtain ⟨⟨_, h2⟩, h3⟩ := h
            obtain ⟨q1, q2, -⟩ := (sameE_eq _ _ _ _ _ _).1 h3
            rw [show En.base e.kind e.name = ({ En.zero with kind := e.kind, name := e.name } : En) from rfl, rd_bodyP e g r (prof_ok e g h2).1, q1, ← q2]
          · cases h
theorem okX_name (x : Fu) (h : okX x = true) : (Ds.bl x.1.name).length ≤ 31 ∧ 32 ∉ Ds.bl x.1.name := by
  have hn : ∀ s, Ds.name s = true → s.length ≤ 31 ∧ 32 ∉ s := fun s h => ⟨((Ds.name_parts s).1 h).1.2, Ek.name_no32 s h⟩
  have hp : ∀ s, Ds.pat s = true → s.length ≤ 31 ∧ 32 ∉ s := fun s h => ⟨((Ds.pat_parts s).1 h).1.2, Ek.pat_no32 s h⟩
  unfold okX at h
  split at h
  · unfold okD at h; simp only [Bool.and_eq_true] at h; exact hn _ h.1.1
  split at h
  · unfold okG at h; simp only [Bool.and_eq_true] at h; exact hn _ ((Ds.group_parts _).1 h.1.1).1
  split at h
  · unfold okA Vp.nameA at h; simp only [Bool.and_eq_true] at h; exact hn _ h.1.1.1
  split at h
  · unfold okC Vp.nameC at h; simp only [Bool.and_eq_true] at h; exact hn _ h.1.1.1
  split at h
  · unfold okP at h; simp only [Bool.and_eq_true] at h; exact hp _ h.1.1
  · cases h
theorem keyX_len (x : Fu) (h : okX x = true) : (keyX x).length = 32 := Ek.key_len _ _ (okX_kind x h) (okX_name x h).1
theorem keyX_name (x : Fu) (h : okX x = true) : keyX x = Ek.letter x.1.kind :: Ek.pad (Ds.bl x.1.name) ∧ Ek.trim (Ek.pad (Ds.bl x.1.name)) = Ds.bl x.1.name :=
  ⟨Ek.key_yes _ _ (okX_kind x h) (okX_name x h).1, Ek.trim_pad _ (okX_name x h).2⟩
/-- the kind whose letter this is -/
def kindOf (c : UInt8) : Option Int := if c = 68 then some 0 else if c = 71 then some 1 else if c = 65 then some 2 else if c = 67 then some 3 else if c = 80 then some 4 else none
theorem kindOf_letter (k : Int) (h : 0 ≤ k ∧ k ≤ 4) : kindOf (Ek.letter k) = some k := by
  rcases (by omega : k = 0 ∨ k = 1 ∨ k = 2 ∨ k = 3 ∨ k = 4) with rfl | rfl | rfl | rfl | rfl <;> rfl
/-- the name in a record -/
def nameX (s : List UInt8) : List UInt8 := Ek.trim ((s.drop 1).take 31)
/-- an attempt at one kind -/
def tryX (k : Int) (s : List UInt8) : Option Fu :=
  if Rd.fin (rdX k ⟨(nameX s).toArray⟩ (s.drop 32, 0)).2 = 0 ∧ okX (rdX k ⟨(nameX s).toArray⟩ (s.drop 32, 0)).1 = true ∧ recX (rdX k ⟨(nameX s).toArray⟩ (s.drop 32, 0)).1 = s then some (rdX k ⟨(nameX s).toArray⟩ (s.drop 32, 0)).1 else none
def decX (s : List UInt8) : Option Fu :=
  if 32 ≤ s.length ∧ s.length ≤ 200 then (match kindOf (s.headD 0) with | some k => tryX k s | none => none) else none
theorem decX_sound (s : List UInt8) (x : Fu) (h : decX s = some x) : okX x = true ∧ recX x = s := by
  unfold decX at h
  split at h
  · split at h
    · unfold tryX at h
      split at h
      · rename_i hc
        cases h
        exact hc.2
      · cases h
    · cases h
  · cases h
theorem recX_split (x : Fu) (r : List UInt8) (h : okX x = true) : (recX x ++ r).headD 0 = Ek.letter x.1.kind ∧ nameX (recX x ++ r) = Ds.bl x.1.name ∧ (recX x ++ r).drop 32 = bodyX x ++ r := by
  have hk := keyX_name x h
  have hl := keyX_len x h
  have hp := Ek.pad_len _ (okX_name x h).1
  have e1 : recX x ++ r = keyX x ++ (bodyX x ++ r) := by unfold recX; rw [List.append_assoc]
  refine ⟨?_, ?_, ?_⟩
  · rw [e1, hk.1]; rfl
  · rw [e1, hk.1]
    unfold nameX
    rw [List.cons_append, List.drop_succ_cons, List.drop_zero]
    rw [List.take_append_of_le_length (by omega), List.take_of_length_le (by omega)]
    exact hk.2
  · rw [e1, List.drop_append_of_le_length (by omega), List.drop_of_length_le (by omega)]; rfl
theorem decX_rec (x : Fu) (h : okX x = true) (hl : (recX x).length ≤ 200) : decX (recX x) = some x := by
  have h3 := recX_split x [] h
  rw [List.append_nil, List.append_nil] at h3
  obtain ⟨h1, h2, h3⟩ := h3
  have hz : 32 ≤ (recX x).length := by unfold recX; rw [List.length_append, keyX_len x h]; omega
  have hr := rd_bodyX x [] h
  rw [List.append_nil] at hr
  unfold decX
  rw [if_pos ⟨hz, hl⟩, h1, kindOf_letter _ (okX_kind x h)]
  simp only
  unfold tryX
  rw [h2, h3, Ds.mk_bl, hr]
  rw [if_pos ⟨rfl, h, rfl⟩]
/-- no record begins another -/
theorem rec_prefix (x y : Fu) (r : List UInt8) (hx : okX x = true) (hy : okX y = true) (h : recX x = recX y ++ r) : r = [] := by
  have a := recX_split x [] hx
  rw [List.append_nil, List.append_nil] at a
  have b := recX_split y r hy
  rw [← h] at b
  have hk : x.1.kind = y.1.kind := Ek.letter_inj _ _ (okX_kind x hx) (okX_kind y hy) (a.1.symm.trans b.1)
  have hn : x.1.name = y.1.name := Ds.bl_inj (a.2.1.symm.trans b.2.1)
  have hb : bodyX x = bodyX y ++ r := a.2.2.symm.trans b.2.2
  have rx := rd_bodyX x [] hx
  have ry := rd_bodyX y r hy
  rw [List.append_nil, hb, hk, hn] at rx
  rw [rx] at ry
  exact (congrArg (fun z => z.2.1) ry).symm
/-- lengths -/
theorem enc_small (n k : Nat) (h : n < 2 ^ (7 * (k + 1))) : (Wi.enc n).length ≤ k + 1 := Wi.enc_len k n h
theorem encs_six : ∀ (l : List Nat), (∀ n ∈ l, n ≤ 1099511627776) → (encs l).length ≤ 6 * l.length
  | [], _ => by simp [encs]
  | n :: r, h => by
    have h1 := enc_small n 5 (Nat.lt_of_le_of_lt (h n (by simp)) (by decide))
    have h2 := encs_six r (fun m hm => h m (by simp [hm]))
    simp only [encs, List.length_append, List.length_cons]; omega
theorem grs_len : ∀ (g : List Gr), (∀ x ∈ g, x.1.size ≤ 8 ∧ x.2.2 ≤ 3 ∧ 0 ≤ x.2.2) → (grs g).length ≤ 11 * g.length
  | [], _ => by simp [grs]
  | x :: r, h => by
    have h1 := h x (by simp)
    have e1 := enc_small x.1.size 0 (by omega)
    have e2 := enc_small x.2.2.toNat 0 (by omega)
    have h2 := grs_len r (fun m hm => h m (by simp [hm]))
    simp only [grs, List.length_append, List.length_cons, List.length_nil, Ds.bl_length]; omega
theorem bodyX_len (x : Fu) (h : okX x = true) : (bodyX x).length ≤ 168 := by
  obtain ⟨e, l, g⟩ := x
  unfold okX at h
  unfold bodyX
  simp only at h ⊢
  split at h
  · rename_i k
    rw [if_pos k]
    unfold okD at h
    simp only [Bool.and_eq_true] at h
    obtain ⟨hd, hvo, hc, hcr, hex, hu, _, _⟩ := dat_ok e l h.1.2
    have hn := nums_nat _ hd.n
    have a1 := encs_six _ hn
    have a2 := encs_six _ (nums_nat _ hd.nl)
    rw [List.length_map] at a1 a2
    have hz : (numD e).length = 14 := rfl
    have l4 := hd.nl4
    have c1 := enc_small e.cls.toNat 0 (by omega)
    have c2 := enc_small e.vol.size 0 (by omega)
    have c3 := enc_small e.own.size 0 (by omega)
    have c4 := enc_small e.cr.toNat 2 (by omega)
    have c5 := enc_small e.ex.toNat 2 (by omega)
    have c6 := enc_small e.used.toNat 2 (by omega)
    have c7 := enc_small l.length 0 (by omega)
    unfold bodyDx bodyD
    simp only [encs, List.length_append, List.length_cons, List.length_nil, Ds.bl_length]
    omega
  · rename_i k0
    rw [if_neg k0]
    split at h
    · rename_i k
      rw [if_pos k]
      unfold okG Vp.grp at h
      simp only [Bool.and_eq_true] at h
      obtain ⟨⟨_, ⟨h1, h2⟩, h3⟩, _⟩ := h
      have r1 := rng1 _ _ _ h1
      have r2 := rng1 _ _ _ h2
      have r3 := own8 _ h3
      have c1 := enc_small e.lim.toNat 0 (by omega)
      have c2 := enc_small e.last.toNat 1 (by omega)
      have c3 := enc_small e.owner.size 0 (by rw [Ds.bl_length] at r3; omega)
      unfold bodyG
      simp only [encs, List.length_append, List.length_cons, List.length_nil]
      omega
    · rename_i k1
      rw [if_neg k1]
      split at h
      · rename_i k
        rw [if_pos k]
        unfold okA at h
        simp only [Bool.and_eq_true] at h
        have := ali_size e h.1.2
        have c3 := enc_small e.target.size 0 (by omega)
        unfold bodyA
        simp only [List.length_append, Ds.bl_length]
        omega
      · rename_i k2
        rw [if_neg k2]
        split at h
        · rename_i k
          rw [if_pos k]
          unfold okC at h
          simp only [Bool.and_eq_true] at h
          have r1 := rng1 _ _ _ h.1.2
          have c3 := enc_small e.cat.toNat 0 (by omega)
          unfold bodyC
          omega
        · rename_i k3
          rw [if_neg k3]
          split at h
          · unfold okP at h
            simp only [Bool.and_eq_true] at h
            obtain ⟨hp, hl, ho, hg⟩ := prof_ok e g h.1.2
            have g8 := hp.g8
            have pl := hp.l
            have c1 := enc_small e.lev.toNat 0 (by omega)
            have c2 := enc_small e.owner.size 0 (by omega)
            have c3 := enc_small g.length 0 (by omega)
            have c4 := grs_len g hg
            unfold bodyP
            simp only [List.length_append, Ds.bl_length]
            omega
          · cases h
theorem recX_len (x : Fu) (h : okX x = true) : (recX x).length ≤ 200 := by
  have := bodyX_len x h
  have := keyX_len x h
  unfold recX; rw [List.length_append]; omega
end Go.Proofs.YtfmjeppajpiekaaGreatDoor
