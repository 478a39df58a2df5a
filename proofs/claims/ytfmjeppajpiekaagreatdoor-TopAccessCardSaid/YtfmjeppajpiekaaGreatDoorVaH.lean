/- Contracts of package entry: Valid at an alias, at a catalog's entry. -/
import Derived.Test.YtfmjeppajpiekaaGreatDoorVaG
import Derived.Test.YtfmjeppajpiekaaGreatDoorVaD
import Derived.Test.YtfmjeppajpiekaaGreatDoorFoC
import Derived.Test.YtfmjeppajpiekaaGreatDoorOnly
namespace Go.Proofs.YtfmjeppajpiekaaGreatDoor
open Go.RowKit
set_option maxHeartbeats 800000
set_option maxRecDepth 4000
theorem ent_f3 : EntF 152 := enters_of Tryz.func152 (by kernel_rfl) rfl
theorem ent_f4 : EntF 154 := enters_of Tryz.func154 (by kernel_rfl) rfl
theorem ent_f5 : EntF 155 := enters_of Tryz.func155 (by kernel_rfl) rfl
theorem ent_f6 : EntF 156 := enters_of Tryz.func156 (by kernel_rfl) rfl
theorem ent_f7 : EntF 158 := enters_of Tryz.func158 (by kernel_rfl) rfl
theorem ent_f8 : EntF 160 := enters_of Tryz.func160 (by kernel_rfl) rfl
/-- the bodies -/
def bodyA (e : En) : List UInt8 := Wi.enc e.target.size ++ Ds.bl e.target
def bodyC (e : En) : List UInt8 := Wi.enc e.cat.toNat
theorem name_len (s : List UInt8) (h : Ds.name s = true) : s.length ≤ 31 := by
  unfold Ds.name at h
  simp only [Bool.and_eq_true, decide_eq_true_eq] at h
  omega
theorem ali_size (e : En) (h : Vp.ali e = true) : e.target.size ≤ 31 := by
  unfold Vp.ali at h
  rw [Bool.and_eq_true] at h
  have := name_len _ h.1
  rwa [Ds.bl_length] at this
theorem rd_bodyA (e : En) (r : List UInt8) (h : e.target.size ≤ 200) : rdAlias ({ En.zero with kind := e.kind, name := e.name } : En) (bodyA e ++ r, 0) = (onlyA e, (r, 0)) := by
  have e1 : bodyA e ++ r = Wi.enc (Ds.bl e.target).length ++ (Ds.bl e.target ++ r) := by
    unfold bodyA; rw [Ds.bl_length, List.append_assoc]
  unfold rdAlias onlyA
  rw [e1, Rd.txt_enc 200 _ _ (by rw [Ds.bl_length]; omega) (by rw [Ds.bl_length]; omega)]
  simp only
  rw [Ds.mk_bl]
theorem wr_alias (e : En) (al gr : Value) (w : World) (h : Vp.ali e = true) : Writes w 154 (e.vals al gr) (bodyA e) := by
  have hz := ali_size e h
  intro W c g _ _ _ hW
  have := fw_alias c g [] e al gr W hW (by omega) (by simp)
  rw [List.nil_append] at this
  exact this
theorem re_alias (e : En) (w : World) (h : Vp.ali e = true) : Reads w 154 (bodyA e) (zcells e.kind e.name) ([], 0) (fun _ _ cs => cs = (onlyA e).vals (.slice none 0 0) (.slice none 0 0)) := by
  have hz := ali_size e h
  have hl : (bodyA e).length ≤ 1000 := by
    have b2 := enc_le10 e.target.size (by omega)
    unfold bodyA
    simp only [List.length_append, Ds.bl_length]
    omega
  intro W c rb g _ _ _ _ hR
  refine (fr_alias c rb g (bodyA e, 0) _ _ _ W hR hl).mono ?_
  rintro r w' ⟨rfl, hR', hG⟩
  have hb := rd_bodyA e [] (by omega)
  rw [List.append_nil] at hb
  rw [hb] at hR'
  exact ⟨rfl, hG, _, hR', vals_size _ _ _, vals_one _ _ _ rfl rfl, rfl⟩
/-- is an alias valid? -/
def okA (e : En) (l2 : List Int) (g2 : List Gr) : Bool := Vp.nameA (Ds.bl e.name) && Vp.ali e && sameE (onlyA e) e [] l2 [] g2
theorem va_kind2 (e : En) (al gr : Value) (l2 : List Int) (g2 : List Gr) (w : World) (hk : e.kind = 2) (hm : MaxL w) (hsz : e.name.size ≤ 1000) (h1 : IS w al l2) (h2 : GS w gr g2) :
    Calls Tryz.prog 17 #[.agg (e.vals al gr)] w fun r w' => r = .returned (.bool (okA e l2 g2)) ∧ Below w.heap.size w w' := by
  have hf : Instr.findNow (.int .i64) (.int .i64 e.kind) fe5.toList 0 = some (some (2, .agg (formV (65 : Nat) 152 154 155))) := by rw [hk]; rfl
  have hn := fun W (b : Below w.heap.size w W) => va_nameA e.name W hsz (hm.below b)
  have hv := fun W (b : Below w.heap.size w W) => va_alias e al gr W (hm.below b)
  unfold okA
  cases hx : Vp.nameA (Ds.bl e.name)
  · rw [hx] at hn
    exact va_name 65 _ _ _ 2 e al gr w ent_f3 hf hn
  · rw [hx] at hn
    cases hy : Vp.ali e
    · rw [hy] at hv
      exact va_fields 65 _ _ _ 2 e al gr w ent_f3 ent_f5 hf hn hv
    · rw [hy] at hv
      refine va_bare 65 _ _ _ 2 e al gr (bodyA e) ([], 0) _ _ w ent_f3 ent_f5 ent_f4 hf hn hv (fun W _ => wr_alias e al gr W hy) (fun W _ => re_alias e W hy) (fun _ _ _ _ h _ _ => h) rfl ?_
      rintro W b cs' hb rfl
      exact en_same (onlyA e) e _ _ al gr [] l2 [] g2 W (IS.nil W) (h1.below hb) (GS.nil W) (h2.below hb)
theorem rd_bodyC (e : En) (r : List UInt8) (h : Vp.cat e = true) : rdCat ({ En.zero with kind := e.kind, name := e.name } : En) (bodyC e ++ r, 0) = (onlyC e, (r, 0)) := by
  have r1 := rng1 _ _ _ h
  unfold rdCat onlyC bodyC
  rw [Rd.num_enc _ _ (by omega)]
  simp only
  rw [clip_id _ (by omega), Int.toNat_of_nonneg (by omega)]
theorem wr_cat (e : En) (al gr : Value) (w : World) (h : Vp.cat e = true) : Writes w 158 (e.vals al gr) (bodyC e) := by
  have r1 := rng1 _ _ _ h
  intro W c g _ _ _ hW
  have := fw_cat c g [] e al gr e.cat.toNat W hW (by omega) (by omega) (by simp)
  rw [List.nil_append] at this
  exact this
theorem re_cat (e : En) (w : World) (h : Vp.cat e = true) : Reads w 158 (bodyC e) (zcells e.kind e.name) ([], 0) (fun _ _ cs => cs = (onlyC e).vals (.slice none 0 0) (.slice none 0 0)) := by
  have r1 := rng1 _ _ _ h
  have hl : (bodyC e).length ≤ 1000 := by
    have b2 := enc_le10 e.cat.toNat (by omega)
    unfold bodyC
    omega
  intro W c rb g _ _ _ _ hR
  refine (fr_cat c rb g (bodyC e, 0) _ _ _ W hR hl).mono ?_
  rintro r w' ⟨rfl, hR', hG⟩
  have hb := rd_bodyC e [] h
  rw [List.append_nil] at hb
  rw [hb] at hR'
  exact ⟨rfl, hG, _, hR', vals_size _ _ _, vals_one _ _ _ rfl rfl, rfl⟩
/-- is a catalog's entry valid? -/
def okC (e : En) (l2 : List Int) (g2 : List Gr) : Bool := Vp.nameC (Ds.bl e.name) && Vp.cat e && sameE (onlyC e) e [] l2 [] g2
theorem va_kind3 (e : En) (al gr : Value) (l2 : List Int) (g2 : List Gr) (w : World) (hk : e.kind = 3) (hm : MaxL w) (h1 : IS w al l2) (h2 : GS w gr g2) :
    Calls Tryz.prog 17 #[.agg (e.vals al gr)] w fun r w' => r = .returned (.bool (okC e l2 g2)) ∧ Below w.heap.size w w' := by
  have hf : Instr.findNow (.int .i64) (.int .i64 e.kind) fe5.toList 0 = some (some (3, .agg (formV (67 : Nat) 156 158 160))) := by rw [hk]; rfl
  have hn := fun W (b : Below w.heap.size w W) => va_nameC e.name W (hm.below b)
  have hv := fun W (_ : Below w.heap.size w W) => va_cat e al gr W
  unfold okC
  cases hx : Vp.nameC (Ds.bl e.name)
  · rw [hx] at hn
    exact va_name 67 _ _ _ 3 e al gr w ent_f6 hf hn
  · rw [hx] at hn
    cases hy : Vp.cat e
    · rw [hy] at hv
      exact va_fields 67 _ _ _ 3 e al gr w ent_f6 ent_f8 hf hn hv
    · rw [hy] at hv
      refine va_bare 67 _ _ _ 3 e al gr (bodyC e) ([], 0) _ _ w ent_f6 ent_f8 ent_f7 hf hn hv (fun W _ => wr_cat e al gr W hy) (fun W _ => re_cat e W hy) (fun _ _ _ _ h _ _ => h) rfl ?_
      rintro W b cs' hb rfl
      exact en_same (onlyC e) e _ _ al gr [] l2 [] g2 W (IS.nil W) (h1.below hb) (GS.nil W) (h2.below hb)
end Go.Proofs.YtfmjeppajpiekaaGreatDoor
