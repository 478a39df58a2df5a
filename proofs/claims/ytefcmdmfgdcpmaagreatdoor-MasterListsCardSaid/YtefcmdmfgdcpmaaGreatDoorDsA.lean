/- Catalogs. -/
import Derived.Test.YtefcmdmfgdcpmaaGreatDoorChecked
import Derived.Test.YtefcmdmfgdcpmaaGreatDoorKit
import Derived.Test.YtefcmdmfgdcpmaaGreatDoorDs
import Derived.Test.YtefcmdmfgdcpmaaGreatDoorShelf
import Derived.Laws.EntriesVeiled
set_option maxHeartbeats 400000
namespace Go.Proofs.YtefcmdmfgdcpmaaGreatDoor
open Go.RowKit
theorem ze1(c:UInt8)(w:World) :
  Calls Tryz.prog 44 #[.int .u8 c.toNat] w fun e w'=>e=.returned (.bool (Ds.up c))∧w=w':=by
 go_enter Tryz.func44,Tryz.ntmps44
 go_wp2
 all_goals (go_ret;exact⟨zaF (by rw[Bool.eq_iff_iff];simp [Ds.up];omega),rfl⟩)
theorem zgz(c:UInt8)(w:World) :
  Calls Tryz.prog 105 #[.int .u8 c.toNat] w fun e w'=>e=.returned (.bool (Ds.dg c))∧w=w':=by
 go_enter Tryz.func105,Tryz.ntmps105
 go_wp2
 all_goals (go_ret;exact⟨zaF (by rw[Bool.eq_iff_iff];simp [Ds.dg];omega),rfl⟩)
theorem zgA(c:UInt8)(w:World) :
  Calls Tryz.prog 49 #[.int .u8 c.toNat] w fun e w'=>e=.returned (.bool (Ds.pl c))∧w=w':=by
 cases h:Ds.up c
 all_goals
  have H:=lh h;clear h;go_enter Tryz.func49,Tryz.ntmps49
  go_wp2_with (first|(go_at_call 44;(with_reducible refine (ze1 _ _).mono ?_);rintro e w' ⟨rfl,rfl⟩)|(go_at_call 105;(with_reducible refine (zgz _ _).mono ?_);rintro e w' ⟨rfl,rfl⟩))
  all_goals (go_ret;exact⟨zaF (by simp_all [Ds.pl,H.out]),rfl⟩)
theorem zpQ(c:UInt8)(w:World) :
  Calls Tryz.prog 43 #[.int .u8 c.toNat] w fun e w'=>e=.returned (.bool (Ds.ups c))∧w=w':=by
 cases h:Ds.up c
 all_goals
  go_enter Tryz.func43,Tryz.ntmps43
  go_wp2_with (go_at_call 44;(with_reducible refine (ze1 _ _).mono ?_);rintro e w' ⟨rfl,rfl⟩)
  all_goals (go_ret;exact⟨zaF (by rw[Bool.eq_iff_iff];simp [Ds.ups,h] <;> omega),rfl⟩)
theorem zpP(c:UInt8)(w:World) :
  Calls Tryz.prog 48 #[.int .u8 c.toNat] w fun e w'=>e=.returned (.bool (Ds.pls c))∧w=w':=by
 cases h:Ds.pl c
 all_goals
  go_enter Tryz.func48,Tryz.ntmps48
  go_wp2_with (go_at_call 49;(with_reducible refine (zgA _ _).mono ?_);rintro e w' ⟨rfl,rfl⟩)
  all_goals (go_ret;exact⟨zaF (by rw[Bool.eq_iff_iff];simp [Ds.pls,h] <;> omega),rfl⟩)
theorem zrq(s:ByteArray)(w:World) :
  Calls Tryz.prog 47 #[.string s,.func (.func 44) #[] #[],.func (.func 49) #[] #[]] w fun e w'=>e=.returned (.bool (Ds.qual Ds.up Ds.pl (Ds.bl s)))∧w=w':=by
 have hl:=Ds.bl_length s;by_cases h1:s.size<1
 have D:=lh (Ds.qual_len Ds.up Ds.pl (Ds.bl s) (by omega));have e1:(decide ((s.size:Int)<1))=true:=by rw[decide_eq_true_eq];omega
 clear hl h1;rotate_left;by_cases h8:8<s.size
 have D:=lh (Ds.qual_len Ds.up Ds.pl (Ds.bl s) (by omega));have e1:(decide ((s.size:Int)<1))=false:=by rw[decide_eq_false_iff_not];omega
 have e2:(decide (8<(s.size:Int)))=true:=by rw[decide_eq_true_eq];omega
 clear hl h1;rotate_left;have e1:(decide ((s.size:Int)<1))=false:=by rw[decide_eq_false_iff_not];omega
 have e2:(decide (8<(s.size:Int)))=false:=by rw[decide_eq_false_iff_not];omega
 have hp:0<s.size:=by omega
 have h8':s.size<=8:=by omega
 have hg:=Ds.bl_get s 0 hp;cases hF:Ds.up s[0]
 have D:=lh (Ds.qual_head Ds.up Ds.pl (Ds.bl s) (by omega) (by rw[<-hg];exact hF));clear hl h1 h8 hg;rotate_left;have D:=lh (Ds.qual_rest Ds.up Ds.pl (Ds.bl s) (by omega) (by omega) (by rw[<-hg];exact hF));have HL:=lh hl;clear hl h1 h8 hg;rotate_left
 iterate 3
  focus
   go_enter Tryz.func47,Tryz.ntmps47
   go_wp2_with (go_at_call 44;(with_reducible refine (ze1 _ _).mono ?_);rintro e w' ⟨rfl,rfl⟩)
   go_ret
   exact⟨zaF D.out.symm,rfl⟩
 go_enter Tryz.func47,Tryz.ntmps47
 go_wp2_with (go_at_call 44;(with_reducible refine (ze1 _ _).mono ?_);rintro e w' ⟨rfl,rfl⟩)
 clear hF;go_loopw [7] (fun i wr=>∃ k:Nat,k<=s.size∧i=.int .i64 k∧Ds.qual Ds.up Ds.pl (Ds.bl s)=Ds.rest Ds.pl (Ds.bl s) k∧w=wr) (fun i _=>s.size - (intOf i).toNat)
 case atStart=>exact⟨1,by omega,rfl,D.out,rfl⟩
 case round =>
  obtain⟨k,hk,rfl,hq,rfl⟩:=hrel;have HQ:=lh hq;clear hq;by_cases hlt:k<s.size
  · have hr:=Ds.rest_next Ds.pl (Ds.bl s) k (by rw[HL.out];exact hlt);rw[<-Ds.bl_get s k hlt] at hr;cases hG:Ds.pl s[k]
    · rw[hG] at hr;have HR:=lh (HQ.out.trans hr);clear hr;go_wp2_with (go_at_call 49;(with_reducible refine (zgA _ _).mono ?_);rintro e w' ⟨rfl,rfl⟩)
      go_ret
      exact⟨zaF HR.out.symm,rfl⟩
    · rw[hG] at hr;have HR:=lh (HQ.out.trans hr);clear hr;go_wp2_with (go_at_call 49;(with_reducible refine (zgA _ _).mono ?_);rintro e w' ⟨rfl,rfl⟩)
      go_roundw
      case rel=>exact⟨k+1,by omega,by go_num,HR.out,trivial⟩
      case measure=>simp [intOf];omega
  · have hr:=HQ.out.trans (Ds.rest_end Ds.pl (Ds.bl s) k (by rw[HL.out];omega));have HR:=lh hr;clear hr;obtain rfl:k=s.size:=by omega
    go_wp2_with fail
    go_ret
    exact⟨zaF HR.out.symm,rfl⟩
theorem zjy(s:ByteArray)(w:World) :
  Calls Tryz.prog 47 #[.string s,.func (.func 43) #[] #[],.func (.func 48) #[] #[]] w fun e w'=>e=.returned (.bool (Ds.qual Ds.ups Ds.pls (Ds.bl s)))∧w=w':=by
 have hl:=Ds.bl_length s;by_cases h1:s.size<1
 have D:=lh (Ds.qual_len Ds.ups Ds.pls (Ds.bl s) (by omega));have e1:(decide ((s.size:Int)<1))=true:=by rw[decide_eq_true_eq];omega
 clear hl h1;rotate_left;by_cases h8:8<s.size
 have D:=lh (Ds.qual_len Ds.ups Ds.pls (Ds.bl s) (by omega));have e1:(decide ((s.size:Int)<1))=false:=by rw[decide_eq_false_iff_not];omega
 have e2:(decide (8<(s.size:Int)))=true:=by rw[decide_eq_true_eq];omega
 clear hl h1;rotate_left;have e1:(decide ((s.size:Int)<1))=false:=by rw[decide_eq_false_iff_not];omega
 have e2:(decide (8<(s.size:Int)))=false:=by rw[decide_eq_false_iff_not];omega
 have hp:0<s.size:=by omega
 have h8':s.size<=8:=by omega
 have hg:=Ds.bl_get s 0 hp;cases hF:Ds.ups s[0]
 have D:=lh (Ds.qual_head Ds.ups Ds.pls (Ds.bl s) (by omega) (by rw[<-hg];exact hF));clear hl h1 h8 hg;rotate_left;have D:=lh (Ds.qual_rest Ds.ups Ds.pls (Ds.bl s) (by omega) (by omega) (by rw[<-hg];exact hF));have HL:=lh hl;clear hl h1 h8 hg;rotate_left
 iterate 3
  focus
   go_enter Tryz.func47,Tryz.ntmps47
   go_wp2_with (go_at_call 43;(with_reducible refine (zpQ _ _).mono ?_);rintro e w' ⟨rfl,rfl⟩)
   go_ret
   exact⟨zaF D.out.symm,rfl⟩
 go_enter Tryz.func47,Tryz.ntmps47
 go_wp2_with (go_at_call 43;(with_reducible refine (zpQ _ _).mono ?_);rintro e w' ⟨rfl,rfl⟩)
 clear hF;go_loopw [7] (fun i wr=>∃ k:Nat,k<=s.size∧i=.int .i64 k∧Ds.qual Ds.ups Ds.pls (Ds.bl s)=Ds.rest Ds.pls (Ds.bl s) k∧w=wr) (fun i _=>s.size - (intOf i).toNat)
 case atStart=>exact⟨1,by omega,rfl,D.out,rfl⟩
 case round =>
  obtain⟨k,hk,rfl,hq,rfl⟩:=hrel;have HQ:=lh hq;clear hq;by_cases hlt:k<s.size
  · have hr:=Ds.rest_next Ds.pls (Ds.bl s) k (by rw[HL.out];exact hlt);rw[<-Ds.bl_get s k hlt] at hr;cases hG:Ds.pls s[k]
    · rw[hG] at hr;have HR:=lh (HQ.out.trans hr);clear hr;go_wp2_with (go_at_call 48;(with_reducible refine (zpP _ _).mono ?_);rintro e w' ⟨rfl,rfl⟩)
      go_ret
      exact⟨zaF HR.out.symm,rfl⟩
    · rw[hG] at hr;have HR:=lh (HQ.out.trans hr);clear hr;go_wp2_with (go_at_call 48;(with_reducible refine (zpP _ _).mono ?_);rintro e w' ⟨rfl,rfl⟩)
      go_roundw
      case rel=>exact⟨k+1,by omega,by go_num,HR.out,trivial⟩
      case measure=>simp [intOf];omega
  · have hr:=HQ.out.trans (Ds.rest_end Ds.pls (Ds.bl s) k (by rw[HL.out];omega));have HR:=lh hr;clear hr;obtain rfl:k=s.size:=by omega
    go_wp2_with fail
    go_ret
    exact⟨zaF HR.out.symm,rfl⟩
def MaxL(w:World):Prop:=∃ m:Int,w.cell? ⟨0,0,none⟩=some (.int .i64 m)
theorem MaxL.below{w w':World}(h:MaxL w)(hb:Below w.heap.size w w'):MaxL w':=h.imp fun _ h=>zac hb h
theorem zcU(s:ByteArray)(w:World)(hs:s.size<4294967281)(hm:MaxL w) :
  Calls Tryz.prog 51 #[.string s,.string ⟨#[46]⟩] w fun e w'=>∃ ps:List ByteArray,ps.length<=s.size+1∧ps.map Ds.bl=Ds.pieces (Ds.bl s)∧e=.returned (.slice (some ⟨w.heap.size,0,none⟩) ps.length ps.length)∧w'=w.alloc (.cells (ps.map Value.string).toArray 9):=by
 obtain⟨m,hm⟩:=hm;refine (Tryz.strings_Split s ⟨#[46]⟩ m w hs hm (by decide)).mono ?_
 rintro e w' ⟨rfl,rfl⟩
 have h1:(Lib.splitB ⟨#[46]⟩ 0 (Lib.countB s ⟨#[46]⟩) s).map Ds.bl=Ds.pieces (Ds.bl s):=by
  have:=Lib.splitB_data ⟨#[46]⟩ 0 (Lib.countB s ⟨#[46]⟩) s;rw[<-Ds.splitK_pieces];exact this
 have h2:(Lib.splitB ⟨#[46]⟩ 0 (Lib.countB s ⟨#[46]⟩) s).length=Lib.countB s ⟨#[46]⟩+1:=by
  have e1:=congrArg List.length h1;rw[List.length_map,Ds.pieces_len] at e1;rw[e1,<-Ds.count_eq];rfl
 have h3:(Ds.bl s).count 46<=(Ds.bl s).length:=List.count_le_length;rw[Ds.bl_length,<-Ds.count_eq] at h3;exact⟨_,by rw[h2];exact Nat.succ_le_succ h3,h1,by rw[h2],rfl⟩
theorem zhv(s:ByteArray)(w:World) :
  Calls Tryz.prog 101 #[.string s] w fun e w'=>e=.returned (.bool (Ds.nameQ (Ds.bl s)))∧w=w':=by
 go_enter Tryz.func101,Tryz.ntmps101
 go_wp2_with (go_at_call 47;(with_reducible refine (zrq _ _).mono ?_);rintro e w' ⟨rfl,rfl⟩)
 go_ret
 exact⟨rfl,rfl⟩
theorem ziF(s:ByteArray)(w:World)(hm:MaxL w) :
  Calls Tryz.prog 45 #[.string s,.int .i64 31,.func (.func 101) #[] #[]] w fun e w'=>e=.returned (.bool (Ds.name (Ds.bl s)))∧Below w.heap.size w w':=by
 have hl:=Ds.bl_length s;by_cases h1:s.size<1
 · have D:=lh (show Ds.name (Ds.bl s)=false by unfold Ds.name;rw[decide_eq_false (by omega)];rfl);have e1:(decide ((s.size:Int)<1))=true:=by rw[decide_eq_true_eq];omega
   clear hl h1;go_enter Tryz.func45,Tryz.ntmps45
   go_wp2_with fail
   go_ret
   exact⟨zaF D.out.symm,Below.refl _ _⟩
 by_cases h8:31<s.size
 · have D:=lh (show Ds.name (Ds.bl s)=false by unfold Ds.name;rw[decide_eq_false (p:=(Ds.bl s).length<=31) (by omega)];simp);have e1:(decide ((s.size:Int)<1))=false:=by rw[decide_eq_false_iff_not];omega
   have e2:(decide (31<(s.size:Int)))=true:=by rw[decide_eq_true_eq];omega
   clear hl h1;go_enter Tryz.func45,Tryz.ntmps45
   go_wp2_with fail
   go_ret
   exact⟨zaF D.out.symm,Below.refl _ _⟩
 have e1:(decide ((s.size:Int)<1))=false:=by rw[decide_eq_false_iff_not];omega
 have e2:(decide (31<(s.size:Int)))=false:=by rw[decide_eq_false_iff_not];omega
 have hs:s.size<4294967281:=by omega
 have D:=lh (show Ds.name (Ds.bl s)=(Ds.pieces (Ds.bl s)).all Ds.nameQ by unfold Ds.name;rw[decide_eq_true (by omega),decide_eq_true (by omega)];rfl);clear hl h1 h8;go_enter Tryz.func45,Tryz.ntmps45
 go_wp2_with (go_at_call 51;(with_reducible refine (zcU _ _ hs hm).mono ?_);rintro e w' ⟨ps,hpl,hp,rfl,rfl⟩;have D2:=lh (D.out.trans (by rw[<-hp,List.all_map];rfl:_=Ds.rest (fun q=>Ds.nameQ (Ds.bl q)) ps 0));clear hp D)
 have S:=Strs.new w ps 9;go_loopw [8,21] (fun q i wr=>∃ k:Nat,k<=ps.length∧i=.int .i64 k∧Ds.name (Ds.bl s)=Ds.rest (fun q=>Ds.nameQ (Ds.bl q)) ps k∧wr=w.alloc (.cells (ps.map Value.string).toArray 9)) (fun _ i _=>ps.length - (intOf i).toNat)
 case atStart=>exact⟨0,by omega,rfl,D2.out,rfl⟩
 case round =>
  obtain⟨k,hk,rfl,hq,rfl⟩:=hrel;have HQ:=lh hq;clear hq;by_cases hlt:k<ps.length
  · have hr:=Ds.rest_next (fun q=>Ds.nameQ (Ds.bl q)) ps k hlt;have hc:=S k hlt;cases hG:Ds.nameQ (Ds.bl ps[k])
    · rw[hG] at hr;have HR:=lh (HQ.out.trans hr);clear hr;go_wp2_with (go_at_call 101;(with_reducible refine (zhv _ _).mono ?_);rintro e w' ⟨rfl,rfl⟩)
      go_ret
      exact⟨zaF HR.out.symm,by (repeat (first|exact Below.refl _ _|assumption|(refine Below.drew ?_)|(refine Below.alloc ?_ (by simp) _)|(refine Below.setCell ?_ (by simp) _)))⟩
    · rw[hG] at hr;have HR:=lh (HQ.out.trans hr);clear hr;go_wp2_with (go_at_call 101;(with_reducible refine (zhv _ _).mono ?_);rintro e w' ⟨rfl,rfl⟩)
      go_roundw
      case rel=>exact⟨k+1,by omega,by go_num,HR.out,trivial⟩
      case measure=>simp [intOf];omega
  · have hr:=HQ.out.trans (Ds.rest_end (fun q=>Ds.nameQ (Ds.bl q)) ps k (by omega));have HR:=lh hr;clear hr;obtain rfl:k=ps.length:=by omega
    go_wp2_with fail
    go_ret
    exact⟨zaF HR.out.symm,by (repeat (first|exact Below.refl _ _|assumption|(refine Below.drew ?_)|(refine Below.alloc ?_ (by simp) _)|(refine Below.setCell ?_ (by simp) _)))⟩
theorem zbh(s:ByteArray)(w:World)(hm:MaxL w) :
  Calls Tryz.prog 34 #[.string s] w fun e w'=>e=.returned (.bool (Ds.name (Ds.bl s)))∧Below w.heap.size w w':=by
 go_enter Tryz.func34,Tryz.ntmps34
 go_wp2_with (go_at_call 45;(with_reducible refine (ziF _ _ hm).mono ?_);rintro e w1 ⟨rfl,hb⟩)
 go_ret
 exact⟨rfl,hb⟩
theorem zjz(s:ByteArray)(p:Nat)(w:World)(hm:MaxL w)(hc:w.cell? ⟨p,0,none⟩=some (.func (.func 43) #[] #[])) :
  Calls Tryz.prog 46 #[.string s,.pointer (some ⟨p,0,none⟩)] w fun e w'=>e=.returned (.bool (Ds.patQ (Ds.bl s)))∧w=w':=by
 have hl:=Ds.bl_length s;by_cases h1:s=⟨#[42,42]⟩
 · have h1':=(Ds.bl_eq s [42,42]).1 h1;have D:=lh (show Ds.patQ (Ds.bl s)=true by unfold Ds.patQ;rw[decide_eq_true h1'];rfl);clear hl h1';subst h1;go_enter Tryz.func46,Tryz.ntmps46
   go_wp2_with fail
   go_ret
   exact⟨zaF D.out.symm,rfl⟩
 have D:=lh (show Ds.patQ (Ds.bl s)=(Ds.qual Ds.ups Ds.pls (Ds.bl s)&&!Ds.ss (Ds.bl s)) by unfold Ds.patQ;rw[decide_eq_false (fun h=>h1 ((Ds.bl_eq s [42,42]).2 h))];rfl);have hne:=Ds.bl_beq s [42,42] h1;clear h1;cases hq:Ds.qual Ds.ups Ds.pls (Ds.bl s)
 · rw[hq] at D;clear hl;go_enter Tryz.func46,Tryz.ntmps46
   go_wp2_with (go_at_call 47;(with_reducible refine (zjy _ _).mono ?_);rintro e w' ⟨rfl,rfl⟩)
   go_ret
   exact⟨zaF D.out.symm,rfl⟩
 · rw[hq] at D;have hs:=Ds.qual_le _ _ _ hq;have hs':s.size<4294967281:=by omega
   clear hl hs;obtain⟨m,hm⟩:=hm;have hss:Lib.contains s.data.toList [42,42]=Ds.ss (Ds.bl s):=Ds.contains_ss _;go_enter Tryz.func46,Tryz.ntmps46
   go_wp2_with (first|(go_at_call 47;(with_reducible refine (zjy _ _).mono ?_);rintro e w' ⟨rfl,rfl⟩)|(go_at_call 50;(with_reducible refine (Tryz.strings_Contains _ _ _ _ hs' hm).mono ?_);rintro e w' ⟨rfl,rfl⟩))
   go_ret
   exact⟨zaF (D.out.symm),rfl⟩
theorem zkx(s:ByteArray)(p:Nat)(w:World)(hm:MaxL w)(hc:w.cell? ⟨p,0,none⟩=some (.func (.func 43) #[] #[])) :
  Calls Tryz.prog 45 #[.string s,.int .i64 31,.func (.func 46) #[] #[.pointer (some ⟨p,0,none⟩)]] w fun e w'=>e=.returned (.bool (Ds.pat (Ds.bl s)))∧Below w.heap.size w w':=by
 have hl:=Ds.bl_length s;by_cases h1:s.size<1
 · have D:=lh (show Ds.pat (Ds.bl s)=false by unfold Ds.pat;rw[decide_eq_false (by omega)];rfl);have e1:(decide ((s.size:Int)<1))=true:=by rw[decide_eq_true_eq];omega
   clear hl h1;go_enter Tryz.func45,Tryz.ntmps45
   go_wp2_with fail
   go_ret
   exact⟨zaF D.out.symm,Below.refl _ _⟩
 by_cases h8:31<s.size
 · have D:=lh (show Ds.pat (Ds.bl s)=false by unfold Ds.pat;rw[decide_eq_false (p:=(Ds.bl s).length<=31) (by omega)];simp);have e1:(decide ((s.size:Int)<1))=false:=by rw[decide_eq_false_iff_not];omega
   have e2:(decide (31<(s.size:Int)))=true:=by rw[decide_eq_true_eq];omega
   clear hl h1;go_enter Tryz.func45,Tryz.ntmps45
   go_wp2_with fail
   go_ret
   exact⟨zaF D.out.symm,Below.refl _ _⟩
 have e1:(decide ((s.size:Int)<1))=false:=by rw[decide_eq_false_iff_not];omega
 have e2:(decide (31<(s.size:Int)))=false:=by rw[decide_eq_false_iff_not];omega
 have hs:s.size<4294967281:=by omega
 have D:=lh (show Ds.pat (Ds.bl s)=(Ds.pieces (Ds.bl s)).all Ds.patQ by unfold Ds.pat;rw[decide_eq_true (by omega),decide_eq_true (by omega)];rfl);clear hl h1 h8;go_enter Tryz.func45,Tryz.ntmps45
 go_wp2_with (go_at_call 51;(with_reducible refine (zcU _ _ hs hm).mono ?_);rintro e w' ⟨ps,hpl,hp,rfl,rfl⟩;have D2:=lh (D.out.trans (by rw[<-hp,List.all_map];rfl:_=Ds.rest (fun q=>Ds.patQ (Ds.bl q)) ps 0));clear hp D)
 have S:=Strs.new w ps 9;have hm2:MaxL (w.alloc (.cells (ps.map Value.string).toArray 9)):=hm.below (by (repeat (first|exact Below.refl _ _|assumption|(refine Below.drew ?_)|(refine Below.alloc ?_ (by simp) _)|(refine Below.setCell ?_ (by simp) _))));have hc2:(w.alloc (.cells (ps.map Value.string).toArray 9)).cell? ⟨p,0,none⟩=some (.func (.func 43) #[] #[]):=zac (by (repeat (first|exact Below.refl _ _|assumption|(refine Below.drew ?_)|(refine Below.alloc ?_ (by simp) _)|(refine Below.setCell ?_ (by simp) _)))) hc;clear hc;go_loopw [8,21] (fun q i wr=>∃ k:Nat,k<=ps.length∧i=.int .i64 k∧Ds.pat (Ds.bl s)=Ds.rest (fun q=>Ds.patQ (Ds.bl q)) ps k∧wr=w.alloc (.cells (ps.map Value.string).toArray 9)) (fun _ i _=>ps.length - (intOf i).toNat)
 case atStart=>exact⟨0,by omega,rfl,D2.out,rfl⟩
 case round =>
  obtain⟨k,hk,rfl,hq,rfl⟩:=hrel;have HQ:=lh hq;clear hq;by_cases hlt:k<ps.length
  · have hr:=Ds.rest_next (fun q=>Ds.patQ (Ds.bl q)) ps k hlt;have hcell:=S k hlt;cases hG:Ds.patQ (Ds.bl ps[k])
    · rw[hG] at hr;have HR:=lh (HQ.out.trans hr);clear hr;go_wp2_with (go_at_call 46;(with_reducible refine (zjz _ p _ hm2 hc2).mono ?_);rintro e w' ⟨rfl,rfl⟩)
      go_ret
      exact⟨zaF HR.out.symm,by (repeat (first|exact Below.refl _ _|assumption|(refine Below.drew ?_)|(refine Below.alloc ?_ (by simp) _)|(refine Below.setCell ?_ (by simp) _)))⟩
    · rw[hG] at hr;have HR:=lh (HQ.out.trans hr);clear hr;go_wp2_with (go_at_call 46;(with_reducible refine (zjz _ p _ hm2 hc2).mono ?_);rintro e w' ⟨rfl,rfl⟩)
      go_roundw
      case rel=>exact⟨k+1,by omega,by go_num,HR.out,trivial⟩
      case measure=>simp [intOf];omega
  · have hr:=HQ.out.trans (Ds.rest_end (fun q=>Ds.patQ (Ds.bl q)) ps k (by omega));have HR:=lh hr;clear hr;obtain rfl:k=ps.length:=by omega
    go_wp2_with fail
    go_ret
    exact⟨zaF HR.out.symm,by (repeat (first|exact Below.refl _ _|assumption|(refine Below.drew ?_)|(refine Below.alloc ?_ (by simp) _)|(refine Below.setCell ?_ (by simp) _)))⟩
theorem zeJ(s:ByteArray)(w:World)(hm:MaxL w) :
  Calls Tryz.prog 17 #[.string s] w fun e w'=>e=.returned (.bool (Ds.pat (Ds.bl s)))∧Below w.heap.size w w':=by
 go_enter Tryz.func17,Tryz.ntmps17
 go_wp2_with (go_at_call 45;(with_reducible refine (zkx _ _ _ (hm.below (by (repeat (first|exact Below.refl _ _|assumption|(refine Below.drew ?_)|(refine Below.alloc ?_ (by simp) _)|(refine Below.setCell ?_ (by simp) _))))) (by simp [go_sem])).mono ?_);rintro e w1 ⟨rfl,hb⟩)
 go_ret
 exact⟨rfl,(Below.alloc (Below.refl _ _) (Nat.le_refl _) _).trans (hb.mono (by simp))⟩
theorem zdV(s:ByteArray)(w:World) :
  Calls Tryz.prog 146 #[.string s] w fun e w'=>e=.returned (.int .i64 (Ds.num (Ds.bl s)))∧w=w':=by
 have hl:=Ds.bl_length s;by_cases h8:s.size=8
 rotate_left
 · have D:=lh (show Ds.num (Ds.bl s)=0 by unfold Ds.num;rw[if_neg (by omega)]);have e1:((s.size:Int) != 8)=true:=by simp;omega
   clear hl h8;go_enter Tryz.func146,Tryz.ntmps146
   go_wp2_with fail
   go_ret
   exact⟨zeE (by rw[D.out];rfl),rfl⟩
 have h0:0<s.size:=by omega
 have hg:=Ds.bl_get s 0 h0;by_cases hG:s[0].toNat=71
 rotate_left
 · have D:=lh (show Ds.num (Ds.bl s)=0 by
    unfold Ds.num;rw[if_neg];rintro ⟨_,h,_⟩;rw[List.getElem?_eq_getElem (by omega),<-hg] at h;rw[Option.some.inj h] at hG;exact hG rfl)
   have e1:((s[0].toNat:Int) != 71)=true:=by simp;omega
   clear hl hg hG;go_enter Tryz.func146,Tryz.ntmps146
   go_wp2_with fail
   go_ret
   exact⟨zeE (by rw[D.out];rfl),rfl⟩
 have hG':((s[0].toNat:Int) != 71)=false:=by simp [hG]
 have hG2:(Ds.bl s)[0]?=some 71:=by
  rw[List.getElem?_eq_getElem (by omega),<-hg];exact congrArg some (UInt8.toNat_inj.1 hG)
 clear hG hg
 have hx:(s.extract 5 8).toList=(Ds.bl s).drop 5:=by
  rw[ByteArray.toList_eq,Lib.extract_data];simp only[Ds.bl]
  rw[List.take_of_length_le (by rw[List.length_drop,Array.length_toList];show s.size - 5<=_;omega)]
 by_cases hV:(Ds.bl s).drop 5=[86,48,48]
 rotate_left
 · have D:=lh (show Ds.num (Ds.bl s)=0 by
    unfold Ds.num;rw[if_neg];rintro ⟨_,_,h,_⟩;exact hV h)
   have e1:((s.extract 5 8).toList==[86,48,48])=false:=by rw[hx,Bool.eq_false_iff];intro h;exact hV (by simpa using h)
   clear hl hx hV hG2;go_enter Tryz.func146,Tryz.ntmps146
   go_wp2_with fail
   go_ret
   exact⟨zeE (by rw[D.out];rfl),rfl⟩
 have e1:((s.extract 5 8).toList==[86,48,48])=true:=by rw[hx,hV];rfl
 have hl8:(Ds.bl s).length=8:=by omega
 have D:=lh (show Ds.num (Ds.bl s)=if Ds.rest Ds.dg (Ds.mid (Ds.bl s)) 0=true then Ds.nv (Ds.bl s) 4 else 0 by
  unfold Ds.num;simp only[hl8,hG2,hV,true_and])
 have HL:=lh hl8;clear hl hx hV hG2 hl8;go_enter Tryz.func146,Tryz.ntmps146
 go_wp2_with fail
 go_loopw [3,4] (fun n i wr=>∃ k v:Nat,k<=4∧v=Ds.nv (Ds.bl s) k∧n=.int .i64 v∧i=.int .i64 (k+1)∧Ds.rest Ds.dg (Ds.mid (Ds.bl s)) 0=Ds.rest Ds.dg (Ds.mid (Ds.bl s)) k∧w=wr) (fun _ i _=>6 - (intOf i).toNat)
 case atStart=>exact⟨0,0,by omega,rfl,rfl,rfl,rfl,rfl⟩
 case round =>
  obtain⟨k,v,hk,hv,rfl,rfl,hq,rfl⟩:=hrel;have hvb:v<=10000000000:=by rw[hv];exact (Ds.nv_bound _ _).1
  have HV:=lh hv;have HQ:=lh hq;clear hv hq;by_cases hlt:k<4
  · have hks:k+1<s.size:=by omega
    have hr:=Ds.rest_next Ds.dg (Ds.mid (Ds.bl s)) k (by rw[Ds.mid_length _ HL.out];exact hlt);rw[Ds.mid_get _ HL.out k hlt,<-Ds.bl_get s (k+1) hks] at hr;cases hG:Ds.dg s[k+1]
    · rw[hG] at hr;have HR:=lh (HQ.out.trans hr);clear hr;go_wp2_with (go_at_call 105;(with_reducible refine (zgz _ _).mono ?_);rintro e w' ⟨rfl,rfl⟩)
      go_ret
      exact⟨zeE (by rw[D.out,HR.out];rfl),rfl⟩
    · rw[hG] at hr;have HR:=lh (HQ.out.trans hr);clear hr;obtain⟨hb1,hb2⟩:=Ds.dg_bounds _ hG;have hn:=Ds.nv_next (Ds.bl s) HL.out k hlt;rw[<-HV.out,<-Ds.bl_get s (k+1) hks] at hn;have HN:=lh hn;clear hn;go_wp2_with (go_at_call 105;(with_reducible refine (zgz _ _).mono ?_);rintro e w' ⟨rfl,rfl⟩)
      go_roundw
      case rel=>exact⟨k+1,_,by omega,HN.out.symm,by go_num,by go_num,HR.out,trivial⟩
      case measure=>simp [intOf];omega
  · obtain rfl:k=4:=by omega
    have hr:=HQ.out.trans (Ds.rest_end Ds.dg (Ds.mid (Ds.bl s)) 4 (by rw[Ds.mid_length _ HL.out];omega));have HR:=lh hr;clear hr;go_wp2_with fail
    go_ret
    exact⟨zeE (by rw[D.out,HR.out,HV.out];rfl),rfl⟩
theorem zhs(s:ByteArray)(w:World) :
  Calls Tryz.prog 145 #[.string s] w fun e w'=>e=.returned (.bool (decide (0<Ds.num (Ds.bl s))))∧w=w':=by
 go_enter Tryz.func145,Tryz.ntmps145
 go_wp2_with (go_at_call 146;(with_reducible refine (zdV _ _).mono ?_);rintro e w' ⟨rfl,rfl⟩)
 go_ret
 exact⟨zaF (by simp),rfl⟩
theorem zht(ps:List ByteArray)(b:Nat)(w:World)(hS:Strs w b ps)(hl:ps.length<=100) :
  Calls Tryz.prog 206 #[.slice (some ⟨b,0,none⟩) ps.length ps.length,.func (.func 145) #[] #[]] w fun e w'=>(∃ i:Int,e=.returned (.int .i64 i)∧decide (0<=i)=!(ps.all fun q=>decide (Ds.num (Ds.bl q)=0)))∧w=w':=by
 have D:=lh (show (ps.all fun q=>decide (Ds.num (Ds.bl q)=0))=Ds.rest (fun q=>decide (Ds.num (Ds.bl q)=0)) ps 0 from rfl);go_enter Tryz.func206,Tryz.ntmps206
 go_wp2_with fail
 go_loopw [5,8] (fun _ i wr=>∃ k:Nat,k<=ps.length∧i=.int .i64 k∧(ps.all fun q=>decide (Ds.num (Ds.bl q)=0))=Ds.rest (fun q=>decide (Ds.num (Ds.bl q)=0)) ps k∧w=wr) (fun _ i _=>ps.length - (intOf i).toNat)
 case atStart=>exact⟨0,by omega,rfl,rfl,rfl⟩
 case round =>
  obtain⟨k,hk,rfl,hq,rfl⟩:=hrel;have HQ:=lh hq;clear hq;by_cases hlt:k<ps.length
  · have hr:=Ds.rest_next (fun q=>decide (Ds.num (Ds.bl q)=0)) ps k hlt;have hc:=hS k hlt;by_cases hG:0<Ds.num (Ds.bl ps[k])
    · rw[decide_eq_false (by omega),Bool.false_and] at hr;have HR:=lh (HQ.out.trans hr);clear hr;have hG':decide (0<Ds.num (Ds.bl ps[k]))=true:=decide_eq_true hG;go_wp2_with (go_at_call 145;(with_reducible refine (zhs _ _).mono ?_);rintro e w' ⟨rfl,rfl⟩)
      go_ret
      exact⟨⟨k,rfl,by rw[HR.out];simp⟩,rfl⟩
    · rw[decide_eq_true (by omega),Bool.true_and] at hr;have HR:=lh (HQ.out.trans hr);clear hr;have hG':decide (0<Ds.num (Ds.bl ps[k]))=false:=decide_eq_false hG;go_wp2_with (go_at_call 145;(with_reducible refine (zhs _ _).mono ?_);rintro e w' ⟨rfl,rfl⟩)
      go_roundw
      case rel=>exact⟨k+1,by omega,by go_num,HR.out,trivial⟩
      case measure=>simp [intOf];omega
  · have hr:=HQ.out.trans (Ds.rest_end (fun q=>decide (Ds.num (Ds.bl q)=0)) ps k (by omega));have HR:=lh hr;clear hr;obtain rfl:k=ps.length:=by omega
    go_wp2_with fail
    go_ret
    exact⟨⟨-1,rfl,by rw[HR.out];simp⟩,rfl⟩
theorem zfj(ps:List ByteArray)(b:Nat)(w:World)(hS:Strs w b ps)(hl:ps.length<=100) :
  Calls Tryz.prog 144 #[.slice (some ⟨b,0,none⟩) ps.length ps.length,.func (.func 145) #[] #[]] w fun e w'=>e=.returned (.bool (!(ps.all fun q=>decide (Ds.num (Ds.bl q)=0))))∧w=w':=by
 go_enter Tryz.func144,Tryz.ntmps144
 go_wp2_with (go_at_call 206;(with_reducible refine (zht _ _ _ hS hl).mono ?_);rintro e w' ⟨⟨i,rfl,hi⟩,rfl⟩;have HI:=lh hi;clear hi)
 go_ret
 exact⟨zaF (by rw[<-HI.out];first|done|simp),rfl⟩
theorem ze0(s:ByteArray)(w:World)(hm:MaxL w) :
  Calls Tryz.prog 75 #[.string s] w fun e w'=>e=.returned (.bool (Ds.group (Ds.bl s)))∧Below w.heap.size w w':=by
 have hl:=Ds.bl_length s;by_cases h1:22<s.size
 · have D:=lh (show Ds.group (Ds.bl s)=false by unfold Ds.group;rw[decide_eq_false (p:=(Ds.bl s).length<=22) (by omega)];simp);have e1:(decide ((s.size:Int)<=22))=false:=by rw[decide_eq_false_iff_not];omega
   clear hl;go_enter Tryz.func75,Tryz.ntmps75
   go_wp2_with fail
   go_ret
   exact⟨zaF D.out.symm,Below.refl _ _⟩
 have e1:(decide ((s.size:Int)<=22))=true:=by rw[decide_eq_true_eq];omega
 have hs:s.size<4294967281:=by omega
 have hs1:s.size<=22:=by omega
 have D:=lh (show Ds.group (Ds.bl s)=(Ds.name (Ds.bl s)&&(Ds.pieces (Ds.bl s)).all fun q=>decide (Ds.num q=0)) by unfold Ds.group;rw[decide_eq_true (p:=(Ds.bl s).length<=22) (by omega),Bool.and_true]);clear hl h1;cases hn:Ds.name (Ds.bl s)
 · rw[hn,Bool.false_and] at D;go_enter Tryz.func75,Tryz.ntmps75
   go_wp2_with (go_at_call 34;(with_reducible refine (zbh _ _ hm).mono ?_);rintro e w1 ⟨rfl,hb⟩)
   go_ret
   exact⟨zaF D.out.symm,hb⟩
 · rw[hn,Bool.true_and] at D;go_enter Tryz.func75,Tryz.ntmps75
   go_wp2_with (first
    | (go_at_call 34;(with_reducible refine (zbh _ _ hm).mono ?_);rintro e w1 ⟨rfl,hb⟩;have hm1:=hm.below hb)
    | (go_at_call 51;(with_reducible refine (zcU _ _ hs hm1).mono ?_);rintro e w' ⟨ps,hpl,hp,rfl,rfl⟩;have S:=Strs.new w1 ps 9;have hpl2:ps.length<=100:=(by omega);have D2:=lh (D.out.trans (by rw[<-hp,List.all_map];rfl:_=ps.all fun q=>decide (Ds.num (Ds.bl q)=0)));clear hp)
    | (go_at_call 144;(with_reducible refine (zfj _ _ _ S hpl2).mono ?_);rintro e w' ⟨rfl,rfl⟩))
   go_ret
   exact⟨zaF (by rw[D2.out]),by (have hzz:=(hb).size;exact zbo)⟩
end Go.Proofs.YtefcmdmfgdcpmaaGreatDoor
