/- Contracts of package entry: Valid at a group. -/
import Derived.Test.YtfmjeppajpiekaaGreatDoorVaC
import Derived.Test.YtfmjeppajpiekaaGreatDoorVaA
import Derived.Test.YtfmjeppajpiekaaGreatDoorFoA
import Derived.Test.YtfmjeppajpiekaaGreatDoorRd
import Derived.Test.YtfmjeppajpiekaaGreatDoorDsA
import Derived.Shelf.Abstract
namespace Go.Proofs.YtfmjeppajpiekaaGreatDoor
open Go.RowKit
set_option maxHeartbeats 800000
set_option maxRecDepth 4000
theorem ent_isgroup : EntF 144 := enters_of Tryz.func144 (by kernel_rfl) rfl
theorem ent_f1 : EntF 145 := enters_of Tryz.func145 (by kernel_rfl) rfl
theorem ent_f2 : EntF 149 := enters_of Tryz.func149 (by kernel_rfl) rfl
/-- the body of a group -/
def bodyG (e : En) : List UInt8 := (encs [e.lim.toNat, e.last.toNat] ++ [tb e.em]) ++ (Wi.enc e.owner.size ++ Ds.bl e.owner)
/-- a group with nothing but its own fields -/
def onlyG (e : En) : En := { En.zero with kind := e.kind, name := e.name, lim := e.lim, last := e.last, em := e.em, owner := e.owner }
theorem word_len (s : List UInt8) (h : Vp.word s = true) : s.length ≤ 31 := by
  unfold Vp.word Ds.name at h
  simp only [Bool.and_eq_true, decide_eq_true_eq] at h
  omega
theorem own_len (s : List UInt8) (h : Vp.own s = true) : s.length ≤ 31 := by
  unfold Vp.own at h
  rw [Bool.or_eq_true] at h
  rcases h with h | h
  · rw [List.isEmpty_iff] at h; subst h; simp
  · exact word_len s h
theorem rng1 (lo hi n : Int) (h : Vp.rng lo hi [n] = true) : lo ≤ n ∧ n ≤ hi := by
  simpa [Vp.rng] using h
theorem clip_id (n : Nat) (h : n ≤ 1099511627776) : clip n = n := by unfold clip; rw [if_neg (by omega)]
theorem rd_bodyG (e : En) (h : Vp.grp e = true) : rdGroup ({ En.zero with kind := e.kind, name := e.name } : En) (bodyG e, 0) = (onlyG e, ([], 0)) := by
  unfold Vp.grp at h
  simp only [Bool.and_eq_true] at h
  obtain ⟨⟨h1, h2⟩, h3⟩ := h
  have r1 := rng1 _ _ _ h1
  have r2 := rng1 _ _ _ h2
  have r3 := own_len _ h3
  have e1 : bodyG e = Wi.enc e.lim.toNat ++ (Wi.enc e.last.toNat ++ (tb e.em :: (Wi.enc (Ds.bl e.owner).length ++ (Ds.bl e.owner ++ [])))) := by
    unfold bodyG encs encs encs; rw [Ds.bl_length]; simp
  unfold rdGroup onlyG
  rw [e1]
  simp only
  rw [Rd.num_enc _ _ (by omega)]
  simp only
  rw [Rd.num_enc _ _ (by omega)]
  simp only
  rw [show tb e.em = (if e.em then 1 else 0) from rfl, Rd.boo_tb]
  simp only
  rw [Rd.txt_enc 200 _ _ (by omega) (by omega)]
  simp only
  rw [clip_id _ (by omega), clip_id _ (by omega), Ds.mk_bl, Int.toNat_of_nonneg (by omega), Int.toNat_of_nonneg (by omega)]
theorem wr_group (e : En) (al gr : Value) (w : World) (h : Vp.grp e = true) : Writes w 145 (e.vals al gr) (bodyG e) := by
  unfold Vp.grp at h
  simp only [Bool.and_eq_true] at h
  obtain ⟨⟨h1, h2⟩, h3⟩ := h
  have r1 := rng1 _ _ _ h1
  have r2 := rng1 _ _ _ h2
  have r3 := own_len _ h3
  rw [Ds.bl_length] at r3
  intro W c g _ _ _ hW
  have := fw_group c g [] e al gr e.lim.toNat e.last.toNat W hW (by omega) (by omega) (by omega) (by omega) (by omega) (by simp)
  rw [List.nil_append] at this
  exact this
theorem re_group (e : En) (w : World) (h : Vp.grp e = true) : Reads w 145 (bodyG e) (zcells e.kind e.name) ([], 0) (fun _ _ cs => cs = (onlyG e).vals (.slice none 0 0) (.slice none 0 0)) := by
  have hl : (bodyG e).length ≤ 1000 := by
    unfold Vp.grp at h
    simp only [Bool.and_eq_true] at h
    obtain ⟨⟨h1, h2⟩, h3⟩ := h
    have r1 := rng1 _ _ _ h1
    have r2 := rng1 _ _ _ h2
    have r3 := own_len _ h3
    rw [Ds.bl_length] at r3
    have b1 := encs2_len e.lim.toNat e.last.toNat (by omega) (by omega)
    have b2 := enc_le10 e.owner.size (by omega)
    unfold bodyG
    simp only [List.length_append, List.length_singleton, Ds.bl_length]
    omega
  intro W c rb g _ _ _ _ hR
  refine (fr_group c rb g (bodyG e, 0) _ _ _ W hR hl).mono ?_
  rintro r w' ⟨rfl, hR', hG⟩
  rw [rd_bodyG e h] at hR'
  exact ⟨rfl, hG, _, hR', vals_size _ _ _, vals_one _ _ _ rfl rfl, rfl⟩
/-- is a group valid? -/
def okG (e : En) (l2 : List Int) (g2 : List Gr) : Bool := Ds.group (Ds.bl e.name) && Vp.grp e && sameE (onlyG e) e [] l2 [] g2
theorem va_kind1 (e : En) (al gr : Value) (l2 : List Int) (g2 : List Gr) (w : World) (hk : e.kind = 1) (hm : MaxL w) (h1 : IS w al l2) (h2 : GS w gr g2) :
    Calls Tryz.prog 17 #[.agg (e.vals al gr)] w fun r w' => r = .returned (.bool (okG e l2 g2)) ∧ Below w.heap.size w w' := by
  have hf : Instr.findNow (.int .i64) (.int .i64 e.kind) fe5.toList 0 = some (some (1, .agg (formV (71 : Nat) 144 145 149))) := by rw [hk]; rfl
  have hn := fun W (b : Below w.heap.size w W) => ds_group e.name W (hm.below b)
  have hv := fun W (b : Below w.heap.size w W) => va_group e al gr W (hm.below b)
  unfold okG
  cases hx : Ds.group (Ds.bl e.name)
  · rw [hx] at hn
    exact va_name 71 _ _ _ 1 e al gr w ent_isgroup hf hn
  · rw [hx] at hn
    cases hy : Vp.grp e
    · rw [hy] at hv
      exact va_fields 71 _ _ _ 1 e al gr w ent_isgroup ent_f2 hf hn hv
    · rw [hy] at hv
      refine va_bare 71 _ _ _ 1 e al gr (bodyG e) ([], 0) _ _ w ent_isgroup ent_f2 ent_f1 hf hn hv (fun W _ => wr_group e al gr W hy) (fun W _ => re_group e W hy) (fun _ _ _ _ h _ _ => h) rfl ?_
      rintro W b cs' hb rfl
      exact en_same (onlyG e) e _ _ al gr [] l2 [] g2 W (IS.nil W) (h1.below hb) (GS.nil W) (h2.below hb)
end Go.Proofs.YtfmjeppajpiekaaGreatDoor
