/- Several texts in one: DsE DsV DsW. -/
import Derived.Test.YtlmgolkgodfmpaaGreatDoorDsA
import Derived.Test.YtlmgolkgodfmpaaGreatDoorDsR
import Derived.Test.YtlmgolkgodfmpaaGreatDoorDsK
import Derived.WalkLawsBesides
import Derived.Test.YtlmgolkgodfmpaaGreatDoorCalE
section
/- Contracts: Qualifiers, First. -/
namespace Go.Proofs.YtlmgolkgodfmpaaGreatDoor
open Go.RowKit
set_option maxHeartbeats 400000
theorem ds_quals_no (s:ByteArray) (w:World) (hm:MaxL w) (hn:Ds.name (Ds.bl s)=false) :
  Calls Tryz.prog 225 #[.string s] w fun e w'=>e=.returned (.slice none 0 0)∧Below w.heap.size w w':=by
 go_enter Tryz.func225,Tryz.ntmps225
 go_wp2_with (go_at_call 42;(with_reducible refine (ds_valid _ _ hm).mono ?_);rintro e w1 ⟨rfl,hb⟩)
 go_ret
 exact⟨rfl,hb⟩
theorem name_size (s:ByteArray) (hn:Ds.name (Ds.bl s)=true):s.size≤31∧1≤s.size:=by
 unfold Ds.name at hn
 simp only[Bool.and_eq_true,decide_eq_true_eq,Ds.bl_length] at hn
 omega
theorem ds_quals_yes (s:ByteArray) (w:World) (hm:MaxL w) (hn:Ds.name (Ds.bl s)=true) :
  Calls Tryz.prog 225 #[.string s] w fun e w'=>∃ (ps:List ByteArray) (b:Nat),ps.map Ds.bl=Ds.pieces (Ds.bl s)∧ps.length≤32∧w.heap.size≤b∧b<w'.heap.size∧e=.returned (.slice (some ⟨b,0,none⟩) ps.length ps.length)∧Strs w' b ps∧Below w.heap.size w w':=by
 have hs:=(name_size s hn).1
 have hs':s.size<4294967281:=by omega
 go_enter Tryz.func225,Tryz.ntmps225
 go_wp2_with (first
  | (go_at_call 42;(with_reducible refine (ds_valid _ _ hm).mono ?_);rintro e w1 ⟨rfl,hb⟩;have hm1:=hm.below hb)
  | (go_at_call 176;(with_reducible refine (split_dot _ _ hs' hm1).mono ?_);rintro e w' ⟨ps,hpl,hp,rfl,rfl⟩;have HP:=Lib.hid hp;clear hp))
 go_ret
 exact⟨ps,w1.heap.size,HP.out,by omega,hb.size,by simp,rfl,Strs.new w1 ps 9,by (have hzz:=(hb).size;exact belA)⟩
theorem ds_join (ps:List ByteArray) (b n c:Nat) (w:World) (hS:Strs w b ps) (hb:b<w.heap.size) (hn:n≤ps.length) (hc:n≤c) (hl:(Lib.join (ps.map Ds.bl) [46]).length≤1000) (hp:ps.length≤1000) :
  Calls Tryz.prog 71 #[.slice (some ⟨b,0,none⟩) n c,.string ⟨#[46]⟩] w fun e w'=>e=.returned (.string ⟨(Lib.join ((ps.map Ds.bl).take n) [46]).toArray⟩)∧Below w.heap.size w w':=by
 have h1:=Ds.join_take (ps.map Ds.bl) [46] n
 have e:(ps.take n).map (·.data.toList)=(ps.map Ds.bl).take n:=by rw[List.map_take];rfl
 have h:=Tryz.strings_Join b 0 c (ps.take n) ⟨#[46]⟩ w (fun j x hx=>by
  have hj:j<ps.length:=by
   rcases Nat.lt_or_ge j ps.length with h | h
   · exact h
   · rw[List.getElem?_eq_none (by simp;omega)] at hx;cases hx
  rw[List.getElem?_take] at hx
  split at hx
  · rw[List.getElem?_eq_getElem hj] at hx
    rw[Nat.zero_add,hS j hj,Option.some.inj hx]
  · cases hx) hb (by simp;omega) (by simp;omega) (by rw[e];exact Nat.le_trans h1 (by omega))
 rw[e,List.length_take,Nat.min_eq_left hn] at h
 exact h
theorem ds_join0 (k c:Nat) (sep:ByteArray) (w:World) (hk:k=0) :
  Calls Tryz.prog 71 #[.slice none k c,.string sep] w fun e w'=>e=.returned (.string ⟨#[]⟩)∧w'=w:=by
 subst hk
 exact Tryz.strings_Join_none none c sep w
theorem ds_first (n:Int) (s:ByteArray) (w:World) (hm:MaxL w) :
  Calls Tryz.prog 162 #[.int .i64 n,.string s] w fun e w'=>e=.returned (.string ⟨(Ds.first n (Ds.bl s)).toArray⟩)∧Below w.heap.size w w':=by
 cases hn:Ds.name (Ds.bl s)
 · have D:=Lib.hid (show Ds.first n (Ds.bl s)=[] by unfold Ds.first;rw[hn];rfl)
   have e0:(min (max n 0) 0).toNat=0:=by omega
   go_enter Tryz.func162,Tryz.ntmps162
   go_wp2_with (first
    | (go_at_call 225;(with_reducible refine (ds_quals_no _ _ hm hn).mono ?_);rintro e w1 ⟨rfl,hb⟩)
    | (go_at_call 71;(with_reducible refine (ds_join0 _ _ _ _ (by omega)).mono ?_);rintro e w' ⟨rfl,rfl⟩))
   go_ret
   exact⟨ret_str (by rw[D.out]),hb⟩
 · have hjl:(Lib.join (Ds.pieces (Ds.bl s)) [46]).length≤1000:=by
    rw[Ds.join_pieces,Ds.bl_length]
    have:=name_size s hn
    omega
   have D:=Lib.hid (show Ds.first n (Ds.bl s)=Lib.join ((Ds.pieces (Ds.bl s)).take n.toNat) [46] by unfold Ds.first;rw[hn];rfl)
   go_enter Tryz.func162,Tryz.ntmps162
   go_wp2_with (first
    | (go_at_call 225;(with_reducible refine (ds_quals_yes _ _ hm hn).mono ?_);rintro e w1 ⟨ps,b,hp,hl,hb1,hb2,rfl,hS,hb⟩;have HP:=Lib.hid hp;clear hp)
    | (go_at_call 71;(with_reducible refine (ds_join ps b _ _ _ hS hb2 (by omega) (by omega) (by rw[HP.out];exact hjl) (by omega)).mono ?_);rintro e w2 ⟨rfl,hb3⟩))
   go_ret
   refine⟨ret_str ?_,bt hb hb3⟩
   rw[D.out,HP.out]
   congr 3
   have hlen:=congrArg List.length HP.out
   rw[List.length_map] at hlen
   rcases Nat.le_total n.toNat ps.length with h | h
   · congr 1;omega
   · rw[List.take_of_length_le (by omega),List.take_of_length_le (by omega)]
end Go.Proofs.YtlmgolkgodfmpaaGreatDoor
end
section
/- Contracts of the reference: key, Order. -/
namespace Go.Proofs.YtlmgolkgodfmpaaGreatDoor
open Go.RowKit
set_option maxHeartbeats 400000
theorem Strs.set {w:World} {b:Nat} {ps:List ByteArray} (h:Strs w b ps) (i:Nat) (hi:i<ps.length) (t:ByteArray):Strs (w.setCell ⟨b,i,none⟩ (.string t)) b (ps.set i t):=fun k hk=>by
 have hk':k<ps.length:=by simpa using hk
 have h0:=h i hi
 have h1:=h k hk'
 by_cases e:i=k
 · subst e;simp [go_sem,h0]
 · rw[List.getElem_set_ne e,← h1]
   have e':(i==k)=false:=by simpa using e
   simp [go_sem]
namespace Ds
theorem less_cmp:∀ a b:List UInt8,Op.bytesLess a b=decide (Lib.compareBytes a b<0)
 | [],[]=>by simp [Op.bytesLess,Lib.compareBytes]
 | [],_::_=>by simp [Op.bytesLess,Lib.compareBytes]
 | _::_,[]=>by simp [Op.bytesLess,Lib.compareBytes]
 | x::a,y::b=>by
   rw[Op.bytesLess,less_cmp a b]
   rcases u8_tri x y with h | h | h
   · rw[cmp_lt _ _ _ _ h];simp [h]
   · subst h;rw[cmp_cons];simp [UInt8.lt_irrefl]
   · have h1:¬ x<y:=fun h'=>absurd (UInt8.lt_trans h h') (UInt8.lt_irrefl y)
     have h2:x≠y:=fun e=>UInt8.lt_irrefl y (e ▸ h)
     rw[cmp_gt _ _ _ _ h];simp [h1,h2]
theorem keyQ_len (q:List UInt8):(keyQ q).length≤q.length:=by
 unfold keyQ;split
 · rename_i h;subst h;simp
 · simp
theorem join_map_len (f:List UInt8→List UInt8) (hf:∀ q,(f q).length≤q.length):∀ L:List (List UInt8),(Lib.join (L.map f) [46]).length≤(Lib.join L [46]).length
 | []=>by simp [Lib.join_nil]
 | [a]=>by simpa [Lib.join_one] using hf a
 | a::b::r=>by
   have ih:=join_map_len f hf (b::r)
   rw[List.map_cons,List.map_cons,join_cons2,join_cons2]
   rw[List.map_cons] at ih
   have:=hf a
   simp only[List.length_append];omega
theorem k1_len (l:List UInt8) (k:Nat):((l.take k).map k1).length≤l.length:=by simp;omega
theorem k1_next (s:ByteArray) (k:Nat) (h:k<s.size) (t:ByteArray) (ht:bl t=((bl s).take k).map k1) (u:ByteArray) (hu:bl u=[k1 s[k]]):bl (t++u)=((bl s).take (k+1)).map k1:=by
 rw[bl_append,ht,hu,take_next s k h];simp
theorem keyQ_all (s:ByteArray) (h:¬ s=⟨#[42,42]⟩) (k:Nat) (hk:s.size≤k):((bl s).take k).map k1=keyQ (bl s):=by
 rw[keyQ_map _ (fun e=>h ((bl_eq s [42,42]).2 e)),List.take_of_length_le (by rw[bl_length];exact hk)]
theorem k1_ne (c:UInt8) (h:c.toNat≠42):k1 c=c:=by
 unfold k1;rw[if_neg];rintro rfl;exact h rfl
theorem k1_eq (c:UInt8) (h:c.toNat=42):k1 c=254:=by
 unfold k1;rw[if_pos (UInt8.toNat_inj.1 h)]
def Keyed (ps ts:List ByteArray) (i:Nat):Prop:=ts.length=ps.length∧(∀ k (h:k<ts.length) (h':k<ps.length),i≤k→ts[k]=ps[k])∧∀ k (h:k<ts.length) (h':k<ps.length),k<i→bl ts[k]=keyQ (bl ps[k])
theorem Keyed.start (ps:List ByteArray):Keyed ps ps 0:=⟨rfl,fun _ _ _ _=>rfl,fun _ _ _ h=>by omega⟩
theorem Keyed.step {ps ts:List ByteArray} {i:Nat} (h:Keyed ps ts i) (hi:i<ps.length) (t:ByteArray) (ht:bl t=keyQ (bl ps[i])):Keyed ps (ts.set i t) (i+1):=by
 refine⟨by simp [h.1],fun k hk hk' hik=>?_,fun k hk hk' hik=>?_⟩
 · rw[List.getElem_set_ne (by omega)]
   exact h.2.1 k (by simpa using hk) hk' (by omega)
 · by_cases e:i=k
   · subst e;rw[List.getElem_set_self];exact ht
   · rw[List.getElem_set_ne e]
     exact h.2.2 k (by simpa using hk) hk' (by omega)
theorem Keyed.done {ps ts:List ByteArray} (h:Keyed ps ts ps.length):ts.map bl=(ps.map bl).map keyQ:=by
 apply List.ext_getElem
 · simp [h.1]
 · intro k h1 h2
   simp only[List.getElem_map]
   exact h.2.2 k (by simpa using h1) (by simpa using h2) (by simpa using h2)
end Ds
theorem rds_key (s:ByteArray) (w:World) (hs:s.size≤60) :
  Calls Tryz.prog 266 #[.string s] w fun e w'=>∃ t:ByteArray,Ds.bl t=Ds.key (Ds.bl s)∧e=.returned (.string t)∧Below w.heap.size w w':=by
 have hs':s.size≤1000:=by omega
 go_enter Tryz.func266,Tryz.ntmps266
 go_wp2_with (go_at_call 57;(with_reducible refine (rds_parts _ _ hs').mono ?_);rintro e w1 ⟨qs,q,g,cap,hp,hql,hg1,hg2,rfl,S,fz,hcap,B⟩;have HP:=Lib.hid hp;have HS:=Lib.hid S;have HZ:=Lib.hid fz;clear hp S fz)
 have HJ:=Lib.hid (show (Lib.join (((qs++[q]).map Ds.bl).map Ds.keyQ) [46]).length≤1000 by
  have h1:=Ds.join_map_len Ds.keyQ Ds.keyQ_len ((qs++[q]).map Ds.bl)
  have h2:=Ds.joined_len HP.out
  rw[Ds.bl_length] at h2;omega)
 go_loopw [4,5,6] (fun i _ _ wr=>∃ (k:Nat) (ts:List ByteArray),k≤qs.length+1∧i=.int .i64 k∧Ds.Keyed (qs++[q]) ts k∧Strs wr g ts∧(∀ o,wr.frozen? ⟨g,o,none⟩=false)∧g<wr.heap.size∧Below w.heap.size w wr) (fun i _ _ _=>qs.length+1 - (intOf i).toNat)
 case atStart=>exact⟨0,qs++[q],by omega,rfl,Ds.Keyed.start _,HS.out,HZ.out,hg2,B⟩
 case round =>
  obtain⟨k,ts,hk,rfl,hK,S,fz,hlt2,B⟩:=hrel
  have hlen:ts.length=qs.length+1:=by rw[hK.1];simp
  have HL:=Lib.hid hlen
  by_cases hlt:k<qs.length+1
  · have hk1:k<ts.length:=by omega
    have hk2:k<(qs++[q]).length:=by simp;omega
    have hx:=hK.2.1 k hk1 hk2 (Nat.le_refl _)
    have hxl:=Ds.piece_len HP.out k hk2
    rw[Ds.bl_length] at hxl
    have hc:=S k hk1
    rw[hx] at hc
    have HKS:=Lib.hid (fun t ht=>hK.step hk2 t ht)
    have HSS:=Lib.hid (fun t=>S.set k hk1 t)
    have fk:=fz k
    have HZ2:=Lib.hid fz
    clear hx S fz hlen hK
    generalize (qs++[q])[k]=x at hxl hc HKS
    by_cases hxx:x=⟨#[42,42]⟩
    · subst hxx
      go_wp2_with fail
      go_loopw [5,6] (fun t j wo=>t=.string ⟨#[]⟩∧j=.int .i64 0∧wr=wo) (fun _ _ _=>0)
      case atStart=>exact⟨rfl,rfl,rfl⟩
      case round =>
       obtain⟨rfl,rfl,rfl⟩:=hrel
       go_wp2_with fail
       go_roundw
       case rel=>exact⟨k+1,_,by omega,by go_num,HKS.out ⟨#[255]⟩ rfl,HSS.out _,by intro o;simpa using HZ2.out o,by simpa using hlt2,B.setCell (by simpa using hg1) _⟩
       case measure=>simp [intOf];omega
    · have hne:=Ds.bl_beq x [42,42] hxx
      have hne2:(x.toList != [42,42])=true:=by simpa using hne
      have HX:=Lib.hid hxx
      clear hxx
      go_wp2_with fail
      obtain⟨wo,hwo⟩:∃ wo:World,wo=wr:=⟨_,rfl⟩
      subst hwo
      go_loopw [5,6] (fun t j wi=>∃ (m:Nat) (u:ByteArray),m≤x.size∧j=.int .i64 m∧t=.string u∧Ds.bl u=((Ds.bl x).take m).map Ds.k1∧wo=wi) (fun _ j _=>x.size - (intOf j).toNat)
      case atStart=>exact⟨0,⟨#[]⟩,by omega,rfl,rfl,rfl,rfl⟩
      case round =>
       obtain⟨m,u,hm,rfl,rfl,hu,rfl⟩:=hrel
       have hul:u.size≤60:=by
        have:=Ds.k1_len (Ds.bl x) m
        rw[← Ds.bl_length,hu];rw[Ds.bl_length] at this;omega
       have HU:=Lib.hid hu
       clear hu
       by_cases hmx:m<x.size
       · by_cases h42:x[m].toNat=42
         · have e42:((x[m].toNat:Int)==42)=true:=by simp [h42]
           have HN:=Lib.hid (Ds.k1_next x m hmx u HU.out ⟨#[254]⟩ (by rw[Ds.k1_eq _ h42];rfl))
           clear h42
           go_wp2_with fail
           go_roundw
           case rel=>exact⟨m+1,_,by omega,by go_num,rfl,HN.out,trivial⟩
           case measure=>simp [intOf];omega
         · have e42:((x[m].toNat:Int)==42)=false:=by simp;omega
           have HN:=Lib.hid (Ds.k1_next x m hmx u HU.out (x.extract m (m+1)) (by rw[Ds.k1_ne _ h42,Ds.bl_one x m hmx]))
           clear h42
           go_wp2_with fail
           go_roundw
           case rel=>exact⟨m+1,_,by omega,by go_num,rfl,HN.out,trivial⟩
           case measure=>simp [intOf];omega
       · obtain rfl:m=x.size:=by omega
         have HT:=Lib.hid (HU.out.trans (Ds.keyQ_all x HX.out x.size (Nat.le_refl _)))
         go_wp2_with fail
         go_roundw
         case rel=>exact⟨k+1,_,by omega,by go_num,HKS.out u HT.out,HSS.out _,by intro o;simpa using HZ2.out o,by simpa using hlt2,B.setCell (by simpa using hg1) _⟩
         case measure=>simp [intOf];omega
  · obtain rfl:k=qs.length+1:=by omega
    have hsl:=hs
    have hK':Ds.Keyed (qs++[q]) ts (qs++[q]).length:=by simpa using hK
    have HD:=Lib.hid hK'.done
    have hjl:(Lib.join (ts.map Ds.bl) [46]).length≤1000:=by rw[HD.out];exact HJ.out
    have hn1:qs.length+1≤ts.length:=by omega
    have hn3:ts.length≤1000:=by rw[hlen];omega
    have hps:=Lib.hid (fun j (h:j<ts.length)=>show ts[j].size≤1000 by
     have h':j<(qs++[q]).length:=by simp;omega
     have:=hK'.2.2 j h h' h'
     rw[← Ds.bl_length,this]
     have h1:=Ds.keyQ_len (Ds.bl (qs++[q])[j])
     have h2:=Ds.piece_len HP.out j h'
     rw[Ds.bl_length] at h1 h2;omega)
    have HK:=Lib.hid hK'
    clear hK hK' hlen fz
    go_wp2_with (go_at_call 140;(with_reducible refine (rds_join ts g _ _ _ S hn1 hcap hjl hn3 hps).mono ?_);rintro e w' ⟨rfl,rfl⟩)
    go_ret
    refine⟨_,?_,rfl,B⟩
    rw[Ds.bl_mk,List.take_of_length_le (by rw[List.length_map,HL.out];exact Nat.le_refl _),HD.out,HP.out]
    rfl
theorem rds_order (a b:ByteArray) (w:World) (ha:a.size≤60) (hb:b.size≤60) :
  Calls Tryz.prog 234 #[.string a,.string b] w fun e w'=>e=.returned (.int .i64 (Ds.order (Ds.bl a) (Ds.bl b)))∧Below w.heap.size w w':=by
 have D:=Ds.order_ref (Ds.bl a) (Ds.bl b)
 have B:=Below.refl w.heap.size w
 cases pa:Ds.pat (Ds.bl a)
 · have DD:=Lib.hid (show Ds.order (Ds.bl a) (Ds.bl b)=0 by rw[← D,if_neg (by simp [pa])])
   clear D
   go_enter Tryz.func234,Tryz.ntmps234
   go_wp2_with (go_at_call 58;(with_reducible refine (rds_pat _ _).mono ?_);rintro e w1 ⟨rfl,hb⟩;have B:=Below.trans B (hb.mono B.size);clear hb)
   go_ret
   exact⟨ret_int (by rw[DD.out]),B⟩
 cases pb:Ds.pat (Ds.bl b)
 · have DD:=Lib.hid (show Ds.order (Ds.bl a) (Ds.bl b)=0 by rw[← D,if_neg (by simp [pb])])
   clear D
   go_enter Tryz.func234,Tryz.ntmps234
   go_wp2_with (go_at_call 58;(with_reducible refine (rds_pat _ _).mono ?_);rintro e w1 ⟨rfl,hb⟩;have B:=Below.trans B (hb.mono B.size);clear hb)
   go_ret
   exact⟨ret_int (by rw[DD.out]),B⟩
 by_cases hab:a=b
 · have DD:=Lib.hid (show Ds.order (Ds.bl a) (Ds.bl b)=0 by rw[← D,if_neg (by simp [hab])])
   subst hab
   clear pb D
   go_enter Tryz.func234,Tryz.ntmps234
   go_wp2_with (go_at_call 58;(with_reducible refine (rds_pat _ _).mono ?_);rintro e w1 ⟨rfl,hb⟩;have B:=Below.trans B (hb.mono B.size);clear hb)
   go_ret
   exact⟨ret_int (by rw[DD.out]),B⟩
 · have DD:=Lib.hid (show Ds.order (Ds.bl a) (Ds.bl b)=if Lib.compareBytes (Ds.key (Ds.bl a)) (Ds.key (Ds.bl b))<0 then -1 else 1 by
    rw[← D,if_pos ⟨pa,pb,fun e=>hab (Ds.bl_inj e)⟩])
   have hne:(a.toList==b.toList)=false:=by simpa using Ds.bl_neq a b hab
   have HN:=Lib.hid hab
   clear D hab
   go_enter Tryz.func234,Tryz.ntmps234
   go_wp2_with (first | (go_at_call 58;(with_reducible refine (rds_pat _ _).mono ?_);rintro e w1 ⟨rfl,hb⟩;have B:=Below.trans B (hb.mono B.size);clear hb) | (go_at_call 266;(with_reducible refine (rds_key a _ ha).mono ?_);rintro e w1 ⟨ta,hta,rfl,hb1⟩;have HA:=Lib.hid hta;have B:=bt B hb1;clear hta hb1) | (go_at_call 266;(with_reducible refine (rds_key b _ hb).mono ?_);rintro e w1 ⟨tb,htb,rfl,hb1⟩;have HB:=Lib.hid htb;have B:=bt B hb1;clear htb hb1))
   all_goals
    have hl:Op.bytesLess ta.toList tb.toList=decide (Lib.compareBytes (Ds.key (Ds.bl a)) (Ds.key (Ds.bl b))<0):=by
     rw[Ds.less_cmp,ByteArray.toList_eq,ByteArray.toList_eq,← HA.out,← HB.out];rfl
    first
    | (have h:Op.bytesLess ta.toList tb.toList=true:=by assumption
       rw[h] at hl
       have HL:=Lib.hid hl.symm
       clear hl
       go_ret
       exact⟨ret_int (by rw[DD.out,if_pos (of_decide_eq_true HL.out)]),B⟩)
    | (have h:Op.bytesLess ta.toList tb.toList=false:=by assumption
       rw[h] at hl
       have HL:=Lib.hid hl.symm
       clear hl
       go_ret
       exact⟨ret_int (by rw[DD.out,if_neg (of_decide_eq_false HL.out)]),B⟩)
end Go.Proofs.YtlmgolkgodfmpaaGreatDoor
end
section
/- Contracts: Generation (both), dsname.Split, dsname.Order. -/
namespace Go.Proofs.YtlmgolkgodfmpaaGreatDoor
open Go.RowKit
set_option maxHeartbeats 400000
namespace Ds
theorem at_dot (a b:List UInt8) (h:46 ∉ b):front (a++46::b)=a∧last (a++46::b)=b:=by
 unfold front last
 rw[pieces_dot,pieces_plain b h,List.dropLast_concat,join_pieces]
 exact⟨rfl,by simp⟩
theorem no_dot (s:List UInt8) (h:46 ∉ s):gen s=false:=by
 unfold gen front
 rw[pieces_plain s h]
 have:group []=false:=by decide
 simp [Lib.join_nil,this]
theorem data_get! (s:ByteArray) (j:Nat) (h:j<s.size):s.data[j]! = s[j]:=by
 rw[getElem!_pos s.data j h];rfl
theorem last_idx (s:ByteArray):(Lib.lastIndexByte s 46=-1∧46 ∉ bl s)∨∃ i:Nat,i<s.size∧Lib.lastIndexByte s 46=i∧bl s=bl (s.extract 0 i)++46::bl (s.extract (i+1) s.size)∧46 ∉ bl (s.extract (i+1) s.size):=by
 rcases Lib.lastIdx_spec s 46 s.size with ⟨h,hn⟩ | ⟨i,hi,he,hc,hn⟩
 · refine .inl ⟨h,fun hm=>?_⟩
   obtain⟨j,hj,e⟩:=List.getElem_of_mem hm
   rw[bl_length] at hj
   have:=hn j hj
   rw[data_get! s j hj,bl_get s j hj,e] at this
   exact this rfl
 · refine .inr ⟨i,hi,he,?_,?_⟩
   · have hx:bl (s.extract 0 i)=(bl s).take i:=by unfold bl;rw[Lib.extract_data];simp
     have hy:bl (s.extract (i+1) s.size)=(bl s).drop (i+1):=by
      unfold bl;rw[Lib.extract_data]
      rw[List.take_of_length_le (by rw[List.length_drop,Array.length_toList];exact Nat.le_refl _)]
     have hg:(bl s)[i]'(by rw[bl_length];exact hi)=46:=by
      rw[data_get! s i hi,bl_get s i hi] at hc
      exact UInt8.toNat_inj.1 (by rw[show (46:UInt8).toNat=46 from rfl];omega)
     rw[hx,hy]
     conv=>lhs;rw[← List.take_append_drop i (bl s),List.drop_eq_getElem_cons (by rw[bl_length];exact hi),hg]
   · have hy:bl (s.extract (i+1) s.size)=(bl s).drop (i+1):=by
      unfold bl;rw[Lib.extract_data]
      rw[List.take_of_length_le (by rw[List.length_drop,Array.length_toList];exact Nat.le_refl _)]
     rw[hy]
     intro hm
     obtain⟨j,hj,e⟩:=List.getElem_of_mem hm
     rw[List.length_drop,bl_length] at hj
     have hj':i+1+j<s.size:=by omega
     have:=hn (i+1+j) (by omega) hj'
     rw[data_get! s _ hj',bl_get s _ hj'] at this
     rw[List.getElem_drop] at e
     rw[e] at this
     exact this rfl
def k0 (q:List UInt8):List UInt8:=if q=[42,42] then [255] else q
theorem k0_key (q:List UInt8):(k0 q).map k1=keyQ q:=by
 unfold k0
 split
 · rename_i h;subst h;decide
 · rename_i h;rw[keyQ_map q h]
theorem join_map_k1:∀ L:List (List UInt8),(Lib.join L [46]).map k1=Lib.join (L.map (List.map k1)) [46]
 | []=>by simp [Lib.join_nil]
 | [a]=>by simp [Lib.join_one]
 | a::b::r=>by
   have ih:=join_map_k1 (b::r)
   rw[List.map_cons,List.map_cons,join_cons2,join_cons2,List.map_append,List.map_append,ih]
   rfl
theorem key_steps (p:List UInt8):(Lib.join ((pieces p).map k0) [46]).map k1=key p:=by
 rw[join_map_k1,List.map_map]
 unfold key
 congr 1
 apply List.map_congr_left
 intro q _
 exact k0_key q
theorem k0_len (q:List UInt8):(k0 q).length≤q.length:=by
 unfold k0;split
 · rename_i h;subst h;simp
 · simp
def Ked (ps ts:List ByteArray) (i:Nat):Prop:=ts.length=ps.length∧(∀ k (h:k<ts.length) (h':k<ps.length),i≤k→ts[k]=ps[k])∧∀ k (h:k<ts.length) (h':k<ps.length),k<i→bl ts[k]=k0 (bl ps[k])
theorem Ked.start (ps:List ByteArray):Ked ps ps 0:=⟨rfl,fun _ _ _ _=>rfl,fun _ _ _ h=>by omega⟩
theorem Ked.step {ps ts:List ByteArray} {i:Nat} (h:Ked ps ts i) (hi:i<ps.length) (t:ByteArray) (ht:bl t=k0 (bl ps[i])):Ked ps (ts.set i t) (i+1):=by
 refine⟨by simp [h.1],fun k hk hk' hik=>?_,fun k hk hk' hik=>?_⟩
 · rw[List.getElem_set_ne (by omega)]
   exact h.2.1 k (by simpa using hk) hk' (by omega)
 · by_cases e:i=k
   · subst e;rw[List.getElem_set_self];exact ht
   · rw[List.getElem_set_ne e]
     exact h.2.2 k (by simpa using hk) hk' (by omega)
theorem Ked.keep {ps ts:List ByteArray} {i:Nat} (h:Ked ps ts i) (hi:i<ps.length) (ht:bl ps[i]=k0 (bl ps[i])):Ked ps ts (i+1):=by
 refine⟨h.1,fun k hk hk' hik=>h.2.1 k hk hk' (by omega),fun k hk hk' hik=>?_⟩
 by_cases e:i=k
 · subst e;rw[h.2.1 i hk hk' (Nat.le_refl _)];exact ht
 · exact h.2.2 k hk hk' (by omega)
theorem Ked.done {ps ts:List ByteArray} (h:Ked ps ts ps.length):ts.map bl=(ps.map bl).map k0:=by
 apply List.ext_getElem
 · simp [h.1]
 · intro k h1 h2
   simp only[List.getElem_map]
   exact h.2.2 k (by simpa using h1) (by simpa using h2) (by simpa using h2)
theorem k0_same (x:ByteArray) (h:¬ x=⟨#[42,42]⟩):bl x=k0 (bl x):=by
 unfold k0;rw[if_neg (fun e=>h ((bl_eq x [42,42]).2 e))]
theorem countB_le (s:ByteArray) (d:UInt8):Lib.countB s ⟨#[d]⟩≤s.size:=by
 have:Lib.countB s ⟨#[d]⟩=Lib.count (bl s) [d]:=rfl
 rw[this,count_eq,← bl_length]
 exact List.count_le_length
end Ds
theorem lastIdx_no (s:ByteArray) (w:World) (hs:s.size≤1000) (h:Hid (Lib.lastIndexByte s 46=-1)) :
  Calls Tryz.prog 152 #[.string s,.int .u8 46] w fun e w'=>e=.returned (.int .i64 (-1))∧w=w' :=
 (Tryz.strings_LastIndexByte s 46 (by omega) w).mono fun _ _ ⟨a,b⟩=>⟨by rw[a,h.out],b.symm⟩
theorem lastIdx_yes (s:ByteArray) (w:World) (i:Nat) (hs:s.size≤1000) (h:Hid (Lib.lastIndexByte s 46=i)) :
  Calls Tryz.prog 152 #[.string s,.int .u8 46] w fun e w'=>e=.returned (.int .i64 i)∧w=w' :=
 (Tryz.strings_LastIndexByte s 46 (by omega) w).mono fun _ _ ⟨a,b⟩=>⟨by rw[a,h.out],b.symm⟩
theorem ds_split (s:ByteArray) (w:World) (hs:s.size≤1000) (hm:MaxL w) :
  Calls Tryz.prog 81 #[.string s] w fun e w'=>e=.returned (.tuple #[.string ⟨(Ds.splG (Ds.bl s)).toArray⟩,.int .i64 (Ds.splN (Ds.bl s)),.bool (Ds.gen (Ds.bl s))])∧Below w.heap.size w w':=by
 have B:=Below.refl w.heap.size w
 rcases Ds.last_idx s with ⟨h,hn⟩ | ⟨i,hi,h,hcut,hn⟩
 · have H:=Lib.hid h
   have hg:=Ds.no_dot _ hn
   have D:=Lib.hid (show Ds.gen (Ds.bl s)=false∧Ds.splG (Ds.bl s)=[]∧Ds.splN (Ds.bl s)=0 by
    exact⟨hg,by unfold Ds.splG;rw[hg];rfl,by unfold Ds.splN;rw[hg];rfl⟩)
   clear h hn hg
   go_enter Tryz.func81,Tryz.ntmps81
   go_wp2_with (go_at_call 152;(with_reducible refine (lastIdx_no _ _ hs H).mono ?_);rintro e w' ⟨rfl,rfl⟩)
   go_ret3
   exact⟨by rw[D.out.1,D.out.2.1,D.out.2.2];rfl,B⟩
 · have H:=Lib.hid h
   have hf:=Ds.at_dot (Ds.bl (s.extract 0 i)) _ hn
   rw[← hcut] at hf
   have HF:=Lib.hid hf
   clear h hn hf hcut
   have i1:IntKind.i64.wrap ((i:Int)+1)=(i:Int)+1:=IntWalk.i64_in _ (by omega)
   have i2:(0:Int)≤(i:Int)+1:=by omega
   have i3:(i:Int)+1≤s.size:=by omega
   have i4:((i:Int)+1).toNat=i+1:=by omega
   have i5:(i:Int)≤s.size:=by omega
   have i6:(0:Int)≤(i:Int):=by omega
   have i7:((i:Int)).toNat=i:=by omega
   cases hg:Ds.group (Ds.bl (s.extract 0 i))
   · have D:=Lib.hid (Ds.spl_no (Ds.bl s) (.inr (by rw[HF.out.1];exact hg)))
     go_enter Tryz.func81,Tryz.ntmps81
     go_wp2_with (first | (go_at_call 152;(with_reducible refine (lastIdx_yes _ _ i hs H).mono ?_);rintro e w' ⟨rfl,rfl⟩) | (go_at_call 120;(with_reducible refine (ds_group _ _ hm).mono ?_);rintro e w1 ⟨rfl,hb⟩;have B:=Below.trans B (hb.mono B.size);clear hb))
     go_ret3
     exact⟨by rw[D.out.1,D.out.2.1,D.out.2.2];rfl,B⟩
   · by_cases hz:Ds.num (Ds.bl (s.extract (i+1) s.size))=0
     · have D:=Lib.hid (Ds.spl_no (Ds.bl s) (.inl (by rw[HF.out.2];exact hz)))
       have e1:((Ds.num (Ds.bl (s.extract (i+1) s.size)):Int)==0)=true:=by simp [hz]
       clear hz
       go_enter Tryz.func81,Tryz.ntmps81
       go_wp2_with (first | (go_at_call 152;(with_reducible refine (lastIdx_yes _ _ i hs H).mono ?_);rintro e w' ⟨rfl,rfl⟩) | (go_at_call 120;(with_reducible refine (ds_group _ _ hm).mono ?_);rintro e w1 ⟨rfl,hb⟩;have B:=Below.trans B (hb.mono B.size);clear hb) | (go_at_call 153;(with_reducible refine (ds_number _ _).mono ?_);rintro e w' ⟨rfl,rfl⟩))
       go_ret3
       exact⟨by rw[D.out.1,D.out.2.1,D.out.2.2];rfl,B⟩
     · have D:=Lib.hid (Ds.spl_yes (Ds.bl s) (by rw[HF.out.2];exact hz) (by rw[HF.out.1];exact hg))
       have e1:((Ds.num (Ds.bl (s.extract (i+1) s.size)):Int)==0)=false:=by simp;omega
       clear hz
       go_enter Tryz.func81,Tryz.ntmps81
       go_wp2_with (first | (go_at_call 152;(with_reducible refine (lastIdx_yes _ _ i hs H).mono ?_);rintro e w' ⟨rfl,rfl⟩) | (go_at_call 120;(with_reducible refine (ds_group _ _ hm).mono ?_);rintro e w1 ⟨rfl,hb⟩;have B:=Below.trans B (hb.mono B.size);clear hb) | (go_at_call 153;(with_reducible refine (ds_number _ _).mono ?_);rintro e w' ⟨rfl,rfl⟩))
       go_quiet ((go_at_call 153;exact Calls.quiet_of_same ((ds_number _ _).mono fun _ _ ⟨a,b⟩=>⟨a,b.symm⟩)))
       have B2:=Lib.hid (below_drewN B nq)
       clear i1 i2 i3 i4 i5 i6 i7
       go_wp2_with fail
       go_ret3
       refine⟨?_,B2.out⟩
       rw[D.out.1,D.out.2.1,D.out.2.2,HF.out.1,HF.out.2]
       refine congrArg Ending.returned (congrArg Value.tuple ?_)
       exact congrArg (fun t=>#[Value.string t,Value.int .i64 _,Value.bool true]) (Ds.mk_bl _).symm
namespace Ds
end Ds
theorem MaxL.alloc {w:World} (h:MaxL w) (o:Obj):MaxL (w.alloc o):=h.below ((Below.refl _ _).alloc (Nat.le_refl _) o)
theorem repl (s:ByteArray) (w:World) (hs:s.size≤1000) (hm:MaxL w) :
  Calls Tryz.prog 223 #[.string s,.string ⟨#[42]⟩,.string ⟨#[254]⟩] w fun e w'=>∃ t:ByteArray,Ds.bl t=(Ds.bl s).map Ds.k1∧e=.returned (.string t)∧Below w.heap.size w w':=by
 obtain⟨m,hm⟩:=hm
 refine (Tryz.strings_ReplaceAll s ⟨#[42]⟩ ⟨#[254]⟩ m w (by omega) hm (by decide) ?_).mono fun _ _ ⟨a,b⟩=>⟨_,?_,a,b⟩
 · have:=Ds.countB_le s 42
   show s.size+Lib.countB s ⟨#[42]⟩*1≤_
   omega
 · rw[Ds.bl_mk]
   exact Ds.replaceAll_map (Ds.bl s) 42 254 (by decide)
theorem ds_key (s:ByteArray) (w:World) (hs:s.size≤60) (hm:MaxL w) :
  Calls Tryz.prog 222 #[.string s] w fun e w'=>∃ t:ByteArray,Ds.bl t=Ds.key (Ds.bl s)∧e=.returned (.string t)∧Below w.heap.size w w':=by
 have hs':s.size<4294967281:=by omega
 go_enter Tryz.func222,Tryz.ntmps222
 go_wp2_with (go_at_call 176;(with_reducible refine (split_dot _ _ hs' hm).mono ?_);rintro e w' ⟨ps,hpl,hp,rfl,rfl⟩;have HP:=Lib.hid hp;clear hp)
 have HJ:=Lib.hid (show (Lib.join ((ps.map Ds.bl).map Ds.k0) [46]).length≤60 by
  have h1:=Ds.join_map_len Ds.k0 Ds.k0_len (ps.map Ds.bl)
  have h2:=Ds.joined_len HP.out
  rw[Ds.bl_length] at h2;omega)
 go_loopw [4,5,10] (fun _ _ i wr=>∃ (k:Nat) (ts:List ByteArray),k≤ps.length∧i=.int .i64 k∧Ds.Ked ps ts k∧Strs wr w.heap.size ts∧(∀ o,wr.frozen? ⟨w.heap.size,o,none⟩=false)∧w.heap.size<wr.heap.size∧Below w.heap.size w wr) (fun _ _ i _=>ps.length - (intOf i).toNat)
 case atStart=>exact⟨0,ps,by omega,rfl,Ds.Ked.start _,Strs.new w ps 9,by intro o;simp,by simp,by (repeat (first | exact Below.refl _ _ | assumption | (refine Below.drew ?_) | (refine Below.alloc ?_ (by simp) _) | (refine Below.setCell ?_ (by simp) _)))⟩
 case round =>
  obtain⟨k,ts,hk,rfl,hK,S,fz,hlt2,B⟩:=hrel
  have hlen:ts.length=ps.length:=hK.1
  have HL:=Lib.hid hlen
  by_cases hlt:k<ps.length
  · have hk1:k<ts.length:=by omega
    have hx:=hK.2.1 k hk1 hlt (Nat.le_refl _)
    have hc:=S k hk1
    rw[hx] at hc
    have HKS:=Lib.hid (fun t ht=>hK.step hlt t ht)
    have HKK:=Lib.hid (fun ht=>hK.keep hlt ht)
    have HSS:=Lib.hid (fun t=>S.set k hk1 t)
    have fk:=fz k
    have HZ2:=Lib.hid fz
    have HS:=Lib.hid S
    clear hx S fz hlen hK
    generalize ps[k]=x at hc HKS HKK
    by_cases hxx:x=⟨#[42,42]⟩
    · subst hxx
      go_wp2_with fail
      go_roundw
      case rel=>exact⟨k+1,_,by omega,by go_num,HKS.out ⟨#[255]⟩ rfl,HSS.out _,by intro o;simpa using HZ2.out o,by simpa using hlt2,B.setCell (by simp) _⟩
      case measure=>simp [intOf];omega
    · have hne:=Ds.bl_beq x [42,42] hxx
      have HX:=Lib.hid hxx
      clear hxx
      go_wp2_with fail
      go_roundw
      case rel=>exact⟨k+1,ts,by omega,by go_num,HKK.out (Ds.k0_same x HX.out),HS.out,HZ2.out,hlt2,B⟩
      case measure=>simp [intOf];omega
  · obtain rfl:k=ps.length:=by omega
    have HD:=Lib.hid hK.done
    have hjl:(Lib.join (ts.map Ds.bl) [46]).length≤1000:=by
     have:=HJ.out
     rw[HD.out];omega
    have hjm:=Lib.hid (show (Lib.join (ts.map Ds.bl) [46]).length≤60 by rw[HD.out];exact HJ.out)
    have hn1:ps.length≤ts.length:=by omega
    have hn3:ts.length≤1000:=by rw[hlen];omega
    have HT:=Lib.hid (show Lib.join ((ts.map Ds.bl).take ps.length) [46]=Lib.join ((Ds.pieces (Ds.bl s)).map Ds.k0) [46] by
     rw[List.take_of_length_le (by simp;omega),HD.out,HP.out])
    have hm2:=hm.below B
    have hmx:(Lib.join ((ts.map Ds.bl).take ps.length) [46]).length≤60:=by
     have:=Ds.join_take (ts.map Ds.bl) [46] ps.length
     have:=hjm.out
     omega
    clear hK hlen fz
    go_wp2_with (first | (go_at_call 71;(with_reducible refine (ds_join ts _ _ _ _ S hlt2 hn1 (Nat.le_refl _) hjl hn3).mono ?_);rintro e w1 ⟨rfl,hb⟩;have B:=bt B hb;have hm3:=hm2.below hb;clear hb) | (go_at_call 223;(with_reducible refine (repl _ _ (Nat.le_trans hmx (by omega)) hm3).mono ?_);rintro e w1 ⟨t,ht,rfl,hb⟩;have HTT:=Lib.hid ht;have B:=bt B hb;clear hb ht))
    go_ret
    refine⟨_,?_,rfl,B⟩
    rw[HTT.out,Ds.bl_mk,HT.out,Ds.key_steps]
theorem ds_order (a b:ByteArray) (w:World) (ha:a.size≤60) (hb:b.size≤60) (hm:MaxL w) :
  Calls Tryz.prog 159 #[.string a,.string b] w fun e w'=>e=.returned (.int .i64 (Ds.order (Ds.bl a) (Ds.bl b)))∧Below w.heap.size w w':=by
 have B:=Below.refl w.heap.size w
 cases pa:Ds.pat (Ds.bl a)
 · have DD:=Lib.hid (Ds.order_bad (Ds.bl a) (Ds.bl b) (by simp [pa]))
   go_enter Tryz.func159,Tryz.ntmps159
   go_wp2_with (go_at_call 136;(with_reducible refine (ds_pat _ _ hm).mono ?_);rintro e w1 ⟨rfl,hb⟩;have B:=Below.trans B (hb.mono B.size);clear hb)
   go_ret
   exact⟨ret_int (by rw[DD.out]),B⟩
 cases pb:Ds.pat (Ds.bl b)
 · have DD:=Lib.hid (Ds.order_bad (Ds.bl a) (Ds.bl b) (by simp [pb]))
   go_enter Tryz.func159,Tryz.ntmps159
   go_wp2_with (go_at_call 136;(with_reducible refine (ds_pat _ _ hm).mono ?_);rintro e w1 ⟨rfl,hb⟩;have B:=bt B hb;have hm:=hm.below hb;clear hb)
   go_ret
   exact⟨ret_int (by rw[DD.out]),B⟩
 have DD:=Lib.hid (show Ds.order (Ds.bl a) (Ds.bl b)=Lib.compareBytes (Ds.key (Ds.bl a)) (Ds.key (Ds.bl b)) by unfold Ds.order;rw[pa,pb];rfl)
 go_enter Tryz.func159,Tryz.ntmps159
 go_wp2_with (first | (go_at_call 136;(with_reducible refine (ds_pat _ _ hm).mono ?_);rintro e w1 ⟨rfl,hb⟩;have B:=bt B hb;have hm:=hm.below hb;clear hb) | (go_at_call 222;(with_reducible refine (ds_key a _ ha hm).mono ?_);rintro e w1 ⟨ta,hta,rfl,hb1⟩;have HA:=Lib.hid hta;have B:=bt B hb1;have hm:=hm.below hb1;clear hta hb1) | (go_at_call 222;(with_reducible refine (ds_key b _ hb hm).mono ?_);rintro e w1 ⟨tb,htb,rfl,hb1⟩;have HB:=Lib.hid htb;have B:=bt B hb1;have hm:=hm.below hb1;clear htb hb1) | (go_at_call 224;(with_reducible refine (Tryz.strings_Compare _ _ _).mono ?_);rintro e w1 ⟨rfl,rfl⟩))
 go_ret
 exact⟨ret_int (by rw[DD.out,← HA.out,← HB.out];rfl),B⟩
end Go.Proofs.YtlmgolkgodfmpaaGreatDoor
end
