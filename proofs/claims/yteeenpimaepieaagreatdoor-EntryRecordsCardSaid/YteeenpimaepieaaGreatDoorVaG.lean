/- Several texts in one: VaG VaH. -/
import Derived.Test.YteeenpimaepieaaGreatDoorBoA
import Derived.Test.YteeenpimaepieaaGreatDoorVaA
import Derived.Test.YteeenpimaepieaaGreatDoorFoA
import Derived.Test.YteeenpimaepieaaGreatDoorRd
import Derived.Test.YteeenpimaepieaaGreatDoorDsA
import Derived.Shelf.Abstract
import Derived.Test.YteeenpimaepieaaGreatDoorVaD
import Derived.Test.YteeenpimaepieaaGreatDoorFoC
import Derived.Test.YteeenpimaepieaaGreatDoorEn
section
/- Contracts of package entry: Valid at a group. -/
namespace Go.Proofs.YteeenpimaepieaaGreatDoor
open Go.RowKit
set_option maxHeartbeats 800000
set_option maxRecDepth 4000
theorem ent_isgroup : EntF 140 := enters_of Tryz.func140 (by kernel_rfl) rfl
theorem ent_f1 : EntF 141 := enters_of Tryz.func141 (by kernel_rfl) rfl
theorem ent_f2 : EntF 145 := enters_of Tryz.func145 (by kernel_rfl) rfl
/-- the body of a group -/
def bodyG (e : En) : List UInt8 := (encs [e.lim.toNat, e.last.toNat] ++ [tb e.em]) ++ (Wi.enc e.owner.size ++ Ds.bl e.owner)
/-- a group with nothing but its own fields -/
def onlyG (e : En) : En := { En.zero with kind := e.kind, name := e.name, lim := e.lim, last := e.last, em := e.em, owner := e.owner }
theorem word_len (s : List UInt8) (h : Vp.word s = true) : s.length ≤ 31 := by
  unfold Vp.word Ds.name at h
  simp only [Bool.and_eq_true, decide_eq_true_eq] at h
  omega
theorem own_len (s : List UInt8) (h : Vp.own s = true) : s.length ≤ 31 := by
  unfold Vp.own at h
  rw [Bool.or_eq_true] at h
  rcases h with h | h
  · rw [List.isEmpty_iff] at h; subst h; simp
  · exact word_len s h
theorem rng1 (lo hi n : Int) (h : Vp.rng lo hi [n] = true) : lo ≤ n ∧ n ≤ hi := by
  simpa [Vp.rng] using h
theorem clip_id (n : Nat) (h : n ≤ 1099511627776) : clip n = n := by unfold clip; rw [if_neg (by omega)]
theorem rd_bodyG (e : En) (h : Vp.grp e = true) : rdGroup ({ En.zero with kind := e.kind, name := e.name } : En) (bodyG e, 0) = (onlyG e, ([], 0)) := by
  unfold Vp.grp at h
  simp only [Bool.and_eq_true] at h
  obtain ⟨⟨h1, h2⟩, h3⟩ := h
  have r1 := rng1 _ _ _ h1
  have r2 := rng1 _ _ _ h2
  have r3 := own_len _ h3
  have e1 : bodyG e = Wi.enc e.lim.toNat ++ (Wi.enc e.last.toNat ++ (tb e.em :: (Wi.enc (Ds.bl e.owner).length ++ (Ds.bl e.owner ++ [])))) := by
    unfold bodyG encs encs encs; rw [Ds.bl_length]; simp
  unfold rdGroup onlyG
  rw [e1]
  simp only
  rw [Rd.num_enc _ _ (by omega)]
  simp only
  rw [Rd.num_enc _ _ (by omega)]
  simp only
  rw [show tb e.em = (if e.em then 1 else 0) from rfl, Rd.boo_tb]
  simp only
  rw [Rd.txt_enc 200 _ _ (by omega) (by omega)]
  simp only
  rw [clip_id _ (by omega), clip_id _ (by omega), Ds.mk_bl, Int.toNat_of_nonneg (by omega), Int.toNat_of_nonneg (by omega)]
theorem wr_group (e : En) (al gr : Value) (w : World) (h : Vp.grp e = true) : Writes w 141 (e.vals al gr) (bodyG e) := by
  unfold Vp.grp at h
  simp only [Bool.and_eq_true] at h
  obtain ⟨⟨h1, h2⟩, h3⟩ := h
  have r1 := rng1 _ _ _ h1
  have r2 := rng1 _ _ _ h2
  have r3 := own_len _ h3
  rw [Ds.bl_length] at r3
  intro W c g _ _ _ hW
  have := fw_group c g [] e al gr e.lim.toNat e.last.toNat W hW (by omega) (by omega) (by omega) (by omega) (by omega) (by simp)
  rw [List.nil_append] at this
  exact this
theorem re_group (e : En) (w : World) (h : Vp.grp e = true) : Reads w 141 (bodyG e) (zcells e.kind e.name) ([], 0) (fun _ _ cs => cs = (onlyG e).vals (.slice none 0 0) (.slice none 0 0)) := by
  have hl : (bodyG e).length ≤ 1000 := by
    unfold Vp.grp at h
    simp only [Bool.and_eq_true] at h
    obtain ⟨⟨h1, h2⟩, h3⟩ := h
    have r1 := rng1 _ _ _ h1
    have r2 := rng1 _ _ _ h2
    have r3 := own_len _ h3
    rw [Ds.bl_length] at r3
    have b1 := encs2_len e.lim.toNat e.last.toNat (by omega) (by omega)
    have b2 := enc_le10 e.owner.size (by omega)
    unfold bodyG
    simp only [List.length_append, List.length_singleton, Ds.bl_length]
    omega
  intro W c rb g _ _ _ _ hR
  refine (fr_group c rb g (bodyG e, 0) _ _ _ W hR hl).mono ?_
  rintro r w' ⟨rfl, hR', hG⟩
  rw [rd_bodyG e h] at hR'
  exact ⟨rfl, hG, _, hR', vals_size _ _ _, vals_one _ _ _ rfl rfl, rfl⟩
/-- is a group valid? -/
def okG (e : En) (l2 : List Int) (g2 : List Gr) : Bool := Ds.group (Ds.bl e.name) && Vp.grp e && sameE (onlyG e) e [] l2 [] g2
theorem va_kind1 (e : En) (al gr : Value) (l2 : List Int) (g2 : List Gr) (w : World) (hk : e.kind = 1) (hm : MaxL w) (h1 : IS w al l2) (h2 : GS w gr g2) :
    Calls Tryz.prog 14 #[.agg (e.vals al gr)] w fun r w' => r = .returned (.bool (okG e l2 g2)) ∧ Below w.heap.size w w' := by
  have hf : Instr.findNow (.int .i64) (.int .i64 e.kind) fe5.toList 0 = some (some (1, .agg (formV (71 : Nat) 140 141 145))) := by rw [hk]; rfl
  have hn := fun W (b : Below w.heap.size w W) => ds_group e.name W (hm.below b)
  have hv := fun W (b : Below w.heap.size w W) => va_group e al gr W (hm.below b)
  unfold okG
  cases hx : Ds.group (Ds.bl e.name)
  · rw [hx] at hn
    exact va_name 71 _ _ _ 1 e al gr w ent_isgroup hf hn
  · rw [hx] at hn
    cases hy : Vp.grp e
    · rw [hy] at hv
      exact va_fields 71 _ _ _ 1 e al gr w ent_isgroup ent_f2 hf hn hv
    · rw [hy] at hv
      refine va_bare 71 _ _ _ 1 e al gr (bodyG e) ([], 0) _ _ w ent_isgroup ent_f2 ent_f1 hf hn hv (fun W _ => wr_group e al gr W hy) (fun W _ => re_group e W hy) (fun _ _ _ _ h _ _ => h) rfl ?_
      rintro W b cs' hb rfl
      exact en_same (onlyG e) e _ _ al gr [] l2 [] g2 W (IS.nil W) (h1.below hb) (GS.nil W) (h2.below hb)
end Go.Proofs.YteeenpimaepieaaGreatDoor

end
section
/- Contracts of package entry: Valid at an alias, at a catalog's entry. -/
namespace Go.Proofs.YteeenpimaepieaaGreatDoor
open Go.RowKit
set_option maxHeartbeats 800000
set_option maxRecDepth 4000
theorem ent_f3 : EntF 148 := enters_of Tryz.func148 (by kernel_rfl) rfl
theorem ent_f4 : EntF 149 := enters_of Tryz.func149 (by kernel_rfl) rfl
theorem ent_f5 : EntF 150 := enters_of Tryz.func150 (by kernel_rfl) rfl
theorem ent_f6 : EntF 151 := enters_of Tryz.func151 (by kernel_rfl) rfl
theorem ent_f7 : EntF 153 := enters_of Tryz.func153 (by kernel_rfl) rfl
theorem ent_f8 : EntF 155 := enters_of Tryz.func155 (by kernel_rfl) rfl
/-- the bodies -/
def bodyA (e : En) : List UInt8 := Wi.enc e.target.size ++ Ds.bl e.target
def bodyC (e : En) : List UInt8 := Wi.enc e.cat.toNat
theorem name_len (s : List UInt8) (h : Ds.name s = true) : s.length ≤ 31 := by
  unfold Ds.name at h
  simp only [Bool.and_eq_true, decide_eq_true_eq] at h
  omega
theorem ali_size (e : En) (h : Vp.ali e = true) : e.target.size ≤ 31 := by
  unfold Vp.ali at h
  rw [Bool.and_eq_true] at h
  have := name_len _ h.1
  rwa [Ds.bl_length] at this
theorem rd_bodyA (e : En) (r : List UInt8) (h : e.target.size ≤ 200) : rdAlias ({ En.zero with kind := e.kind, name := e.name } : En) (bodyA e ++ r, 0) = (onlyA e, (r, 0)) := by
  have e1 : bodyA e ++ r = Wi.enc (Ds.bl e.target).length ++ (Ds.bl e.target ++ r) := by
    unfold bodyA; rw [Ds.bl_length, List.append_assoc]
  unfold rdAlias onlyA
  rw [e1, Rd.txt_enc 200 _ _ (by rw [Ds.bl_length]; omega) (by rw [Ds.bl_length]; omega)]
  simp only
  rw [Ds.mk_bl]
theorem wr_alias (e : En) (al gr : Value) (w : World) (h : Vp.ali e = true) : Writes w 149 (e.vals al gr) (bodyA e) := by
  have hz := ali_size e h
  intro W c g _ _ _ hW
  have := fw_alias c g [] e al gr W hW (by omega) (by simp)
  rw [List.nil_append] at this
  exact this
theorem re_alias (e : En) (w : World) (h : Vp.ali e = true) : Reads w 149 (bodyA e) (zcells e.kind e.name) ([], 0) (fun _ _ cs => cs = (onlyA e).vals (.slice none 0 0) (.slice none 0 0)) := by
  have hz := ali_size e h
  have hl : (bodyA e).length ≤ 1000 := by
    have b2 := enc_le10 e.target.size (by omega)
    unfold bodyA
    simp only [List.length_append, Ds.bl_length]
    omega
  intro W c rb g _ _ _ _ hR
  refine (fr_alias c rb g (bodyA e, 0) _ _ _ W hR hl).mono ?_
  rintro r w' ⟨rfl, hR', hG⟩
  have hb := rd_bodyA e [] (by omega)
  rw [List.append_nil] at hb
  rw [hb] at hR'
  exact ⟨rfl, hG, _, hR', vals_size _ _ _, vals_one _ _ _ rfl rfl, rfl⟩
/-- is an alias valid? -/
def okA (e : En) (l2 : List Int) (g2 : List Gr) : Bool := Vp.nameA (Ds.bl e.name) && Vp.ali e && sameE (onlyA e) e [] l2 [] g2
theorem va_kind2 (e : En) (al gr : Value) (l2 : List Int) (g2 : List Gr) (w : World) (hk : e.kind = 2) (hm : MaxL w) (hsz : e.name.size ≤ 1000) (h1 : IS w al l2) (h2 : GS w gr g2) :
    Calls Tryz.prog 14 #[.agg (e.vals al gr)] w fun r w' => r = .returned (.bool (okA e l2 g2)) ∧ Below w.heap.size w w' := by
  have hf : Instr.findNow (.int .i64) (.int .i64 e.kind) fe5.toList 0 = some (some (2, .agg (formV (65 : Nat) 148 149 150))) := by rw [hk]; rfl
  have hn := fun W (b : Below w.heap.size w W) => va_nameA e.name W hsz (hm.below b)
  have hv := fun W (b : Below w.heap.size w W) => va_alias e al gr W (hm.below b)
  unfold okA
  cases hx : Vp.nameA (Ds.bl e.name)
  · rw [hx] at hn
    exact va_name 65 _ _ _ 2 e al gr w ent_f3 hf hn
  · rw [hx] at hn
    cases hy : Vp.ali e
    · rw [hy] at hv
      exact va_fields 65 _ _ _ 2 e al gr w ent_f3 ent_f5 hf hn hv
    · rw [hy] at hv
      refine va_bare 65 _ _ _ 2 e al gr (bodyA e) ([], 0) _ _ w ent_f3 ent_f5 ent_f4 hf hn hv (fun W _ => wr_alias e al gr W hy) (fun W _ => re_alias e W hy) (fun _ _ _ _ h _ _ => h) rfl ?_
      rintro W b cs' hb rfl
      exact en_same (onlyA e) e _ _ al gr [] l2 [] g2 W (IS.nil W) (h1.below hb) (GS.nil W) (h2.below hb)
theorem rd_bodyC (e : En) (r : List UInt8) (h : Vp.cat e = true) : rdCat ({ En.zero with kind := e.kind, name := e.name } : En) (bodyC e ++ r, 0) = (onlyC e, (r, 0)) := by
  have r1 := rng1 _ _ _ h
  unfold rdCat onlyC bodyC
  rw [Rd.num_enc _ _ (by omega)]
  simp only
  rw [clip_id _ (by omega), Int.toNat_of_nonneg (by omega)]
theorem wr_cat (e : En) (al gr : Value) (w : World) (h : Vp.cat e = true) : Writes w 153 (e.vals al gr) (bodyC e) := by
  have r1 := rng1 _ _ _ h
  intro W c g _ _ _ hW
  have := fw_cat c g [] e al gr e.cat.toNat W hW (by omega) (by omega) (by simp)
  rw [List.nil_append] at this
  exact this
theorem re_cat (e : En) (w : World) (h : Vp.cat e = true) : Reads w 153 (bodyC e) (zcells e.kind e.name) ([], 0) (fun _ _ cs => cs = (onlyC e).vals (.slice none 0 0) (.slice none 0 0)) := by
  have r1 := rng1 _ _ _ h
  have hl : (bodyC e).length ≤ 1000 := by
    have b2 := enc_le10 e.cat.toNat (by omega)
    unfold bodyC
    omega
  intro W c rb g _ _ _ _ hR
  refine (fr_cat c rb g (bodyC e, 0) _ _ _ W hR hl).mono ?_
  rintro r w' ⟨rfl, hR', hG⟩
  have hb := rd_bodyC e [] h
  rw [List.append_nil] at hb
  rw [hb] at hR'
  exact ⟨rfl, hG, _, hR', vals_size _ _ _, vals_one _ _ _ rfl rfl, rfl⟩
/-- is a catalog's entry valid? -/
def okC (e : En) (l2 : List Int) (g2 : List Gr) : Bool := Vp.nameC (Ds.bl e.name) && Vp.cat e && sameE (onlyC e) e [] l2 [] g2
theorem va_kind3 (e : En) (al gr : Value) (l2 : List Int) (g2 : List Gr) (w : World) (hk : e.kind = 3) (hm : MaxL w) (h1 : IS w al l2) (h2 : GS w gr g2) :
    Calls Tryz.prog 14 #[.agg (e.vals al gr)] w fun r w' => r = .returned (.bool (okC e l2 g2)) ∧ Below w.heap.size w w' := by
  have hf : Instr.findNow (.int .i64) (.int .i64 e.kind) fe5.toList 0 = some (some (3, .agg (formV (67 : Nat) 151 153 155))) := by rw [hk]; rfl
  have hn := fun W (b : Below w.heap.size w W) => va_nameC e.name W (hm.below b)
  have hv := fun W (_ : Below w.heap.size w W) => va_cat e al gr W
  unfold okC
  cases hx : Vp.nameC (Ds.bl e.name)
  · rw [hx] at hn
    exact va_name 67 _ _ _ 3 e al gr w ent_f6 hf hn
  · rw [hx] at hn
    cases hy : Vp.cat e
    · rw [hy] at hv
      exact va_fields 67 _ _ _ 3 e al gr w ent_f6 ent_f8 hf hn hv
    · rw [hy] at hv
      refine va_bare 67 _ _ _ 3 e al gr (bodyC e) ([], 0) _ _ w ent_f6 ent_f8 ent_f7 hf hn hv (fun W _ => wr_cat e al gr W hy) (fun W _ => re_cat e W hy) (fun _ _ _ _ h _ _ => h) rfl ?_
      rintro W b cs' hb rfl
      exact en_same (onlyC e) e _ _ al gr [] l2 [] g2 W (IS.nil W) (h1.below hb) (GS.nil W) (h2.below hb)
end Go.Proofs.YteeenpimaepieaaGreatDoor

end
