/- Catalogs. -/
import Derived.Test.YtefcmdmfgdcpmaaGreatDoorDsR
set_option maxHeartbeats 400000
namespace Go.Proofs.YtefcmdmfgdcpmaaGreatDoor
section
open Go.RowKit
theorem ziG(s:ByteArray)(w:World)(hm:MaxL w)(hn:Ds.name (Ds.bl s)=false) :
  Calls Tryz.prog 103 #[.string s] w fun e w'=>e=.returned (.slice none 0 0)∧Below w.heap.size w w':=by
 go_enter Tryz.func103,Tryz.ntmps103
 go_wp2_with (go_at_call 34;(with_reducible refine (zbh _ _ hm).mono ?_);rintro e w1 ⟨rfl,hb⟩)
 go_ret
 exact⟨rfl,hb⟩
theorem zhW(s:ByteArray)(hn:Ds.name (Ds.bl s)=true):s.size<=31∧1<=s.size:=by
 unfold Ds.name at hn;simp only[Bool.and_eq_true,decide_eq_true_eq,Ds.bl_length] at hn
 omega
theorem zhu(s:ByteArray)(w:World)(hm:MaxL w)(hn:Ds.name (Ds.bl s)=true) :
  Calls Tryz.prog 103 #[.string s] w fun e w'=>∃ (ps:List ByteArray) (b:Nat),ps.map Ds.bl=Ds.pieces (Ds.bl s)∧ps.length<=32∧w.heap.size<=b∧b<w'.heap.size∧e=.returned (.slice (some ⟨b,0,none⟩) ps.length ps.length)∧Strs w' b ps∧Below w.heap.size w w':=by
 have hs:=(zhW s hn).1;have hs':s.size<4294967281:=by omega
 go_enter Tryz.func103,Tryz.ntmps103
 go_wp2_with (first
  | (go_at_call 34;(with_reducible refine (zbh _ _ hm).mono ?_);rintro e w1 ⟨rfl,hb⟩;have hm1:=hm.below hb)
  | (go_at_call 51;(with_reducible refine (zcU _ _ hs' hm1).mono ?_);rintro e w' ⟨ps,hpl,hp,rfl,rfl⟩;have HP:=lh hp;clear hp))
 go_ret
 exact⟨ps,w1.heap.size,HP.out,by omega,hb.size,by simp,rfl,Strs.new w1 ps 9,by (have hzz:=(hb).size;exact zbo)⟩
theorem zrp(ps:List ByteArray)(b n c:Nat)(w:World)(hS:Strs w b ps)(hb:b<w.heap.size)(hn:n<=ps.length)(hc:n<=c)(hl:(Lib.join (ps.map Ds.bl) [46]).length<=1000)(hp:ps.length<=1000) :
  Calls Tryz.prog 104 #[.slice (some ⟨b,0,none⟩) n c,.string ⟨#[46]⟩] w fun e w'=>e=.returned (.string ⟨(Lib.join ((ps.map Ds.bl).take n) [46]).toArray⟩)∧Below w.heap.size w w':=by
 have h1:=Ds.join_take (ps.map Ds.bl) [46] n;have e:(ps.take n).map (·.data.toList)=(ps.map Ds.bl).take n:=by rw[List.map_take];rfl
 have h:=Tryz.strings_Join b 0 c (ps.take n) ⟨#[46]⟩ w (fun j x hx=>by
  have hj:j<ps.length:=by
   rcases Nat.lt_or_ge j ps.length with h|h
   · exact h
   · rw[List.getElem?_eq_none (by simp;omega)] at hx;cases hx
  rw[List.getElem?_take] at hx;split at hx
  · rw[List.getElem?_eq_getElem hj] at hx;rw[Nat.zero_add,hS j hj,Option.some.inj hx]
  · cases hx) hb (by simp;omega) (by simp;omega) (by rw[e];exact Nat.le_trans h1 (by omega))
 rw[e,List.length_take,Nat.min_eq_left hn] at h;exact h
theorem zn9(k c:Nat)(sep:ByteArray)(w:World)(hk:k=0) :
  Calls Tryz.prog 104 #[.slice none k c,.string sep] w fun e w'=>e=.returned (.string ⟨#[]⟩)∧w'=w:=by
 subst hk;exact Tryz.strings_Join_none none c sep w
theorem zn8(n:Int)(s:ByteArray)(w:World)(hm:MaxL w) :
  Calls Tryz.prog 36 #[.int .i64 n,.string s] w fun e w'=>e=.returned (.string ⟨(Ds.first n (Ds.bl s)).toArray⟩)∧Below w.heap.size w w':=by
 cases hn:Ds.name (Ds.bl s)
 · have D:=lh (show Ds.first n (Ds.bl s)=[] by unfold Ds.first;rw[hn];rfl);have e0:(min (max n 0) 0).toNat=0:=by omega
   go_enter Tryz.func36,Tryz.ntmps36
   go_wp2_with (first
    | (go_at_call 103;(with_reducible refine (ziG _ _ hm hn).mono ?_);rintro e w1 ⟨rfl,hb⟩)
    | (go_at_call 104;(with_reducible refine (zn9 _ _ _ _ (by omega)).mono ?_);rintro e w' ⟨rfl,rfl⟩))
   go_ret
   exact⟨zfD (by rw[D.out]),hb⟩
 · have hjl:(Lib.join (Ds.pieces (Ds.bl s)) [46]).length<=1000:=by
    rw[Ds.join_pieces,Ds.bl_length];have:=zhW s hn;omega
   have D:=lh (show Ds.first n (Ds.bl s)=Lib.join ((Ds.pieces (Ds.bl s)).take n.toNat) [46] by unfold Ds.first;rw[hn];rfl);go_enter Tryz.func36,Tryz.ntmps36
   go_wp2_with (first
    | (go_at_call 103;(with_reducible refine (zhu _ _ hm hn).mono ?_);rintro e w1 ⟨ps,b,hp,hl,hb1,hb2,rfl,hS,hb⟩;have HP:=lh hp;clear hp)
    | (go_at_call 104;(with_reducible refine (zrp ps b _ _ _ hS hb2 (by omega) (by omega) (by rw[HP.out];exact hjl) (by omega)).mono ?_);rintro e w2 ⟨rfl,hb3⟩))
   go_ret
   refine⟨zfD ?_,bt hb hb3⟩
   rw[D.out,HP.out];congr 3
   have hlen:=congrArg List.length HP.out;rw[List.length_map] at hlen;rcases Nat.le_total n.toNat ps.length with h|h
   · congr 1;omega
   · rw[List.take_of_length_le (by omega),List.take_of_length_le (by omega)]
end
end Go.Proofs.YtefcmdmfgdcpmaaGreatDoor
section
namespace Go.Proofs.YtefcmdmfgdcpmaaGreatDoor
open Go.RowKit
theorem Strs.set{w:World}{b:Nat}{ps:List ByteArray}(h:Strs w b ps)(i:Nat)(hi:i<ps.length)(t:ByteArray):Strs (w.setCell ⟨b,i,none⟩ (.string t)) b (ps.set i t):=fun k hk=>by
 have hk':k<ps.length:=by simpa using hk
 have h0:=h i hi;have h1:=h k hk';by_cases e:i=k
 · subst e;simp [go_sem,h0]
 · rw[List.getElem_set_ne e,<-h1];have e':(i==k)=false:=by simpa using e
   simp [go_sem]
namespace Ds
theorem less_cmp:∀ a b:List UInt8,Op.bytesLess a b=decide (Lib.compareBytes a b<0)
 | [],[]=>by simp [Op.bytesLess,Lib.compareBytes]
 | [],_::_=>by simp [Op.bytesLess,Lib.compareBytes]
 | _::_,[]=>by simp [Op.bytesLess,Lib.compareBytes]
 | x::a,y::b=>by
   rw[Op.bytesLess,less_cmp a b];rcases zgj x y with h|h|h
   · rw[zfe _ _ _ _ h];simp [h]
   · subst h;rw[zdT];simp [UInt8.lt_irrefl]
   · have h1:¬ x<y:=fun h'=>absurd (UInt8.lt_trans h h') (UInt8.lt_irrefl y)
     have h2:x≠y:=fun e=>UInt8.lt_irrefl y (e ▸ h)
     rw[zfd _ _ _ _ h];simp [h1,h2]
def Keyed(ps ts:List ByteArray)(i:Nat):Prop:=ts.length=ps.length∧(∀ k (h:k<ts.length) (h':k<ps.length),i<=k->ts[k]=ps[k])∧∀ k (h:k<ts.length) (h':k<ps.length),k<i->bl ts[k]=zvk (bl ps[k])
theorem Keyed.start(ps:List ByteArray):Keyed ps ps 0:=⟨rfl,fun _ _ _ _=>rfl,fun _ _ _ h=>by omega⟩
theorem Keyed.step{ps ts:List ByteArray}{i:Nat}(h:Keyed ps ts i)(hi:i<ps.length)(t:ByteArray)(ht:bl t=zvk (bl ps[i])):Keyed ps (ts.set i t) (i+1):=by
 refine⟨by simp [h.1],fun k hk hk' hik=>?_,fun k hk hk' hik=>?_⟩
 · rw[List.getElem_set_ne (by omega)];exact h.2.1 k (by simpa using hk) hk' (by omega)
 · by_cases e:i=k
   · subst e;rw[List.getElem_set_self];exact ht
   · rw[List.getElem_set_ne e];exact h.2.2 k (by simpa using hk) hk' (by omega)
theorem Keyed.done{ps ts:List ByteArray}(h:Keyed ps ts ps.length):ts.map bl=(ps.map bl).map zvk:=by
 apply List.ext_getElem
 · simp [h.1]
 · intro k h1 h2;simp only[List.getElem_map]
   exact h.2.2 k (by simpa using h1) (by simpa using h2) (by simpa using h2)
end Ds
end Go.Proofs.YtefcmdmfgdcpmaaGreatDoor
end
section
namespace Go.Proofs.YtefcmdmfgdcpmaaGreatDoor
open Go.RowKit
namespace Ds
theorem at_dot(a b:List UInt8)(h:46 ∉ b):front (a++46::b)=a∧last (a++46::b)=b:=by
 unfold front last;rw[pieces_dot,zcD b h,List.dropLast_concat,join_pieces];exact⟨rfl,by simp⟩
theorem no_dot(s:List UInt8)(h:46 ∉ s):gen s=false:=by
 unfold gen front;rw[zcD s h];have:group []=false:=by decide
 simp [Lib.join_nil,this]
theorem zfi(s:ByteArray)(j:Nat)(h:j<s.size):s.data[j]! = s[j]:=by
 rw[getElem!_pos s.data j h];rfl
theorem last_idx(s:ByteArray):(Lib.lastIndexByte s 46=-1∧46 ∉ bl s)∨∃ i:Nat,i<s.size∧Lib.lastIndexByte s 46=i∧bl s=bl (s.extract 0 i)++46::bl (s.extract (i+1) s.size)∧46 ∉ bl (s.extract (i+1) s.size):=by
 rcases Lib.lastIdx_spec s 46 s.size with ⟨h,hn⟩|⟨i,hi,he,hc,hn⟩
 · refine .inl ⟨h,fun hm=>?_⟩
   obtain⟨j,hj,e⟩:=List.getElem_of_mem hm;rw[bl_length] at hj;have:=hn j hj;rw[zfi s j hj,bl_get s j hj,e] at this;exact this rfl
 · refine .inr ⟨i,hi,he,?_,?_⟩
   · have hx:bl (s.extract 0 i)=(bl s).take i:=by unfold bl;rw[Lib.extract_data];simp
     have hy:bl (s.extract (i+1) s.size)=(bl s).drop (i+1):=by
      unfold bl;rw[Lib.extract_data];rw[List.take_of_length_le (by rw[List.length_drop,Array.length_toList];exact Nat.le_refl _)]
     have hg:(bl s)[i]'(by rw[bl_length];exact hi)=46:=by
      rw[zfi s i hi,bl_get s i hi] at hc;exact UInt8.toNat_inj.1 (by rw[show (46:UInt8).toNat=46 from rfl];omega)
     rw[hx,hy];conv=>lhs;rw[<-List.take_append_drop i (bl s),List.drop_eq_getElem_cons (by rw[bl_length];exact hi),hg]
   · have hy:bl (s.extract (i+1) s.size)=(bl s).drop (i+1):=by
      unfold bl;rw[Lib.extract_data];rw[List.take_of_length_le (by rw[List.length_drop,Array.length_toList];exact Nat.le_refl _)]
     rw[hy];intro hm;obtain⟨j,hj,e⟩:=List.getElem_of_mem hm;rw[List.length_drop,bl_length] at hj;have hj':i+1+j<s.size:=by omega
     have:=hn (i+1+j) (by omega) hj';rw[zfi s _ hj',bl_get s _ hj'] at this;rw[List.getElem_drop] at e;rw[e] at this;exact this rfl
def k0(q:List UInt8):List UInt8:=if q=[42,42] then [255] else q
def Ked(ps ts:List ByteArray)(i:Nat):Prop:=ts.length=ps.length∧(∀ k (h:k<ts.length) (h':k<ps.length),i<=k->ts[k]=ps[k])∧∀ k (h:k<ts.length) (h':k<ps.length),k<i->bl ts[k]=k0 (bl ps[k])
theorem Ked.start(ps:List ByteArray):Ked ps ps 0:=⟨rfl,fun _ _ _ _=>rfl,fun _ _ _ h=>by omega⟩
theorem Ked.step{ps ts:List ByteArray}{i:Nat}(h:Ked ps ts i)(hi:i<ps.length)(t:ByteArray)(ht:bl t=k0 (bl ps[i])):Ked ps (ts.set i t) (i+1):=by
 refine⟨by simp [h.1],fun k hk hk' hik=>?_,fun k hk hk' hik=>?_⟩
 · rw[List.getElem_set_ne (by omega)];exact h.2.1 k (by simpa using hk) hk' (by omega)
 · by_cases e:i=k
   · subst e;rw[List.getElem_set_self];exact ht
   · rw[List.getElem_set_ne e];exact h.2.2 k (by simpa using hk) hk' (by omega)
theorem Ked.keep{ps ts:List ByteArray}{i:Nat}(h:Ked ps ts i)(hi:i<ps.length)(ht:bl ps[i]=k0 (bl ps[i])):Ked ps ts (i+1):=by
 refine⟨h.1,fun k hk hk' hik=>h.2.1 k hk hk' (by omega),fun k hk hk' hik=>?_⟩
 by_cases e:i=k
 · subst e;rw[h.2.1 i hk hk' (Nat.le_refl _)];exact ht
 · exact h.2.2 k hk hk' (by omega)
theorem Ked.done{ps ts:List ByteArray}(h:Ked ps ts ps.length):ts.map bl=(ps.map bl).map k0:=by
 apply List.ext_getElem
 · simp [h.1]
 · intro k h1 h2;simp only[List.getElem_map]
   exact h.2.2 k (by simpa using h1) (by simpa using h2) (by simpa using h2)
end Ds
theorem zkF(s:ByteArray)(w:World)(hs:s.size<=1000)(h:Hid (Lib.lastIndexByte s 46=-1)) :
  Calls Tryz.prog 153 #[.string s,.int .u8 46] w fun e w'=>e=.returned (.int .i64 (-1))∧w=w' :=
 (Tryz.strings_LastIndexByte s 46 (by omega) w).mono fun _ _ ⟨a,b⟩=>⟨by rw[a,h.out],b.symm⟩
theorem zdH(s:ByteArray)(w:World)(i:Nat)(hs:s.size<=1000)(h:Hid (Lib.lastIndexByte s 46=i)) :
  Calls Tryz.prog 153 #[.string s,.int .u8 46] w fun e w'=>e=.returned (.int .i64 i)∧w=w' :=
 (Tryz.strings_LastIndexByte s 46 (by omega) w).mono fun _ _ ⟨a,b⟩=>⟨by rw[a,h.out],b.symm⟩
theorem zdW(s:ByteArray)(w:World)(hs:s.size<=1000)(hm:MaxL w) :
  Calls Tryz.prog 84 #[.string s] w fun e w'=>e=.returned (.tuple #[.string ⟨(Ds.splG (Ds.bl s)).toArray⟩,.int .i64 (Ds.splN (Ds.bl s)),.bool (Ds.gen (Ds.bl s))])∧Below w.heap.size w w':=by
 have B:=Below.refl w.heap.size w;rcases Ds.last_idx s with ⟨h,hn⟩|⟨i,hi,h,hcut,hn⟩
 · have H:=lh h;have hg:=Ds.no_dot _ hn
   have D:=lh (show Ds.gen (Ds.bl s)=false∧Ds.splG (Ds.bl s)=[]∧Ds.splN (Ds.bl s)=0 by
    exact⟨hg,by unfold Ds.splG;rw[hg];rfl,by unfold Ds.splN;rw[hg];rfl⟩)
   clear h hn hg;go_enter Tryz.func84,Tryz.ntmps84
   go_wp2_with (go_at_call 153;(with_reducible refine (zkF _ _ hs H).mono ?_);rintro e w' ⟨rfl,rfl⟩)
   go_ret3
   exact⟨by rw[D.out.1,D.out.2.1,D.out.2.2];rfl,B⟩
 · have H:=lh h;have hf:=Ds.at_dot (Ds.bl (s.extract 0 i)) _ hn;rw[<-hcut] at hf;have HF:=lh hf;clear h hn hf hcut;have i1:IntKind.i64.wrap ((i:Int)+1)=(i:Int)+1:=IntWalk.i64_in _ (by omega);have i2:(0:Int)<=(i:Int)+1:=by omega
   have i3:(i:Int)+1<=s.size:=by omega
   have i4:((i:Int)+1).toNat=i+1:=by omega
   have i5:(i:Int)<=s.size:=by omega
   have i6:(0:Int)<=(i:Int):=by omega
   have i7:((i:Int)).toNat=i:=by omega
   cases hg:Ds.group (Ds.bl (s.extract 0 i))
   · have D:=lh (Ds.spl_no (Ds.bl s) (.inr (by rw[HF.out.1];exact hg)));go_enter Tryz.func84,Tryz.ntmps84
     go_wp2_with (first|(go_at_call 153;(with_reducible refine (zdH _ _ i hs H).mono ?_);rintro e w' ⟨rfl,rfl⟩)|(go_at_call 75;(with_reducible refine (ze0 _ _ hm).mono ?_);rintro e w1 ⟨rfl,hb⟩;have B:=Below.trans B (hb.mono B.size);clear hb))
     go_ret3
     exact⟨by rw[D.out.1,D.out.2.1,D.out.2.2];rfl,B⟩
   · by_cases hz:Ds.num (Ds.bl (s.extract (i+1) s.size))=0
     · have D:=lh (Ds.spl_no (Ds.bl s) (.inl (by rw[HF.out.2];exact hz)));have e1:((Ds.num (Ds.bl (s.extract (i+1) s.size)):Int)==0)=true:=by simp [hz]
       clear hz;go_enter Tryz.func84,Tryz.ntmps84
       go_wp2_with (first|(go_at_call 153;(with_reducible refine (zdH _ _ i hs H).mono ?_);rintro e w' ⟨rfl,rfl⟩)|(go_at_call 75;(with_reducible refine (ze0 _ _ hm).mono ?_);rintro e w1 ⟨rfl,hb⟩;have B:=Below.trans B (hb.mono B.size);clear hb)|(go_at_call 146;(with_reducible refine (zdV _ _).mono ?_);rintro e w' ⟨rfl,rfl⟩))
       go_ret3
       exact⟨by rw[D.out.1,D.out.2.1,D.out.2.2];rfl,B⟩
     · have D:=lh (Ds.spl_yes (Ds.bl s) (by rw[HF.out.2];exact hz) (by rw[HF.out.1];exact hg));have e1:((Ds.num (Ds.bl (s.extract (i+1) s.size)):Int)==0)=false:=by simp;omega
       clear hz;go_enter Tryz.func84,Tryz.ntmps84
       go_wp2_with (first|(go_at_call 153;(with_reducible refine (zdH _ _ i hs H).mono ?_);rintro e w' ⟨rfl,rfl⟩)|(go_at_call 75;(with_reducible refine (ze0 _ _ hm).mono ?_);rintro e w1 ⟨rfl,hb⟩;have B:=Below.trans B (hb.mono B.size);clear hb)|(go_at_call 146;(with_reducible refine (zdV _ _).mono ?_);rintro e w' ⟨rfl,rfl⟩))
       go_quiet ((go_at_call 146;exact Calls.quiet_of_same ((zdV _ _).mono fun _ _ ⟨a,b⟩=>⟨a,b.symm⟩)))
       have B2:=lh (below_drewN B nq);clear i1 i2 i3 i4 i5 i6 i7;go_wp2_with fail
       go_ret3
       refine⟨?_,B2.out⟩
       rw[D.out.1,D.out.2.1,D.out.2.2,HF.out.1,HF.out.2];refine congrArg Ending.returned (congrArg Value.tuple ?_)
       exact congrArg (fun t=>#[Value.string t,Value.int .i64 _,Value.bool true]) (Ds.mk_bl _).symm
namespace Ds
end Ds
theorem MaxL.alloc{w:World}(h:MaxL w)(o:Obj):MaxL (w.alloc o):=h.below ((Below.refl _ _).alloc (Nat.le_refl _) o)
end Go.Proofs.YtefcmdmfgdcpmaaGreatDoor
end
