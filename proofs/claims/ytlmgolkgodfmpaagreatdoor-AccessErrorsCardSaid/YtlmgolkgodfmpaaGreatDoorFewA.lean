/- Contract of dasdlaw34.few. -/
import Derived.Test.YtlmgolkgodfmpaaGreatDoorAcD
namespace Go.Proofs.YtlmgolkgodfmpaaGreatDoor
open Go.RowKit
set_option maxHeartbeats 8000000
set_option maxRecDepth 8000
attribute [local go_sem ↓] ldEnt stEnt stEntRow ldEntM
attribute [local go_sem] Held_drew isHead_mk headOf_mk offOf_mk isPtr_mk cellsOfV_mk isAggV_mk row_new row_new2 row_new2' row_drew row_drewN vals_size allOne_nil allOne_cons one_int one_bool one_string one_pointer one_slice vals_0 vals_1 vals_28 vals_32
def fewAP (F:Nat→Ef) (n m:Nat):Prop:=n≤12∧m≤6∧∀ k,k<n→(F k).e.name.size≤60∧(F k).n2≤12∧(F k).e.owner.size≤60
def FewAR (F:Nat→Ef) (n m:Nat) (w w':World) (r:Ending):Prop:=∃ b:Bool,r=.returned (.bool b)∧(b=true→fewAP F n m)∧Below w.heap.size w w'
theorem FewAR.no {F:Nat→Ef} {n m:Nat} {w w':World} (h:Below w.heap.size w w'):FewAR F n m w w' (.returned (.bool false)):=⟨false,rfl,(fun h=>by cases h),h⟩
theorem few34 (a:Option Addr) (n c:Nat) (F:Nat→Ef) (ga:Option Addr) (m gc:Nat) (w:World) (hES:ES w a n F) :
  Calls Tryz.prog 41 #[.slice a n c,.slice ga m gc] w fun r w'=>FewAR F n m w w' r:=by
 have HES:=Lib.hid hES
 have hn63:=hES.1
 clear hES
 go_enter Tryz.func41,Tryz.ntmps41
 go_wp2_with fail
 go_loopw [9] (fun i wr=>∃ k:Nat,k≤n∧i=.int .i64 k∧(∀ j,j<k→(F j).e.name.size≤60∧(F j).n2≤12∧(F j).e.owner.size≤60)∧Below w.heap.size w wr) (fun i _=>n - (intOf i).toNat)
 case atStart=>exact⟨0,Nat.zero_le _,rfl,(fun j hj=>absurd hj (by omega)),by exact belA⟩
 case round =>
  obtain⟨k,hk,rfl,hok,B⟩:=hrel
  have HOK:=Lib.hid hok
  have z0:=B.size
  clear hok
  by_cases hlt:k<n
  · obtain⟨b,o,rfl,hb,a1,c1,a2,c2,hmid,h1,h2,-⟩:=(HES.out.below B).2 k hlt
    have hz:(mid wr b (o+k*33)).size=33:=by rw[hmid];exact vals_size _ _ _
    have hone:=vals_one (F k).e (.slice a1 (F k).n1 c1) (.slice a2 (F k).n2 c2) rfl rfl
    by_cases s0:(F k).e.name.size≤60
    rotate_left
    · have f6:decide (60<((F k).e.name.size:Int))=true:=by rw[decide_eq_true_eq];omega
      go_wp2_with fail
      go_ret
      exact FewAR.no (by exact belA)
    have f6:decide (60<((F k).e.name.size:Int))=false:=by rw[decide_eq_false_iff_not];omega
    by_cases s1:(F k).n2≤12
    rotate_left
    · have f7:decide (12<((F k).n2:Int))=true:=by rw[decide_eq_true_eq];omega
      go_wp2_with fail
      go_ret
      exact FewAR.no (by exact belA)
    have f7:decide (12<((F k).n2:Int))=false:=by rw[decide_eq_false_iff_not];omega
    by_cases s2:(F k).e.owner.size≤60
    rotate_left
    · have f8:decide (60<((F k).e.owner.size:Int))=true:=by rw[decide_eq_true_eq];omega
      go_wp2_with fail
      go_ret
      exact FewAR.no (by exact belA)
    have f8:decide (60<((F k).e.owner.size:Int))=false:=by rw[decide_eq_false_iff_not];omega
    have HS:Hid ((F k).e.name.size≤60∧(F k).n2≤12∧(F k).e.owner.size≤60):=Lib.hid ⟨s0,s1,s2⟩
    clear s0 s1 s2
    go_wp2_with fail
    go_roundw
    case rel =>
     refine⟨k+1,by omega,by go_num,fun j hj=>?_,by exact belA⟩
     rcases Nat.lt_or_ge j k with h | h
     · exact HOK.out j h
     · obtain rfl:j=k:=by omega
       exact HS.out
    case measure=>simp [intOf];omega
  · obtain rfl:k=n:=by omega
    by_cases s0:k≤12
    rotate_left
    · have f6:decide ((k:Int)≤12)=false:=by rw[decide_eq_false_iff_not];omega
      go_wp2_with fail
      go_ret
      exact FewAR.no B
    have f6:decide ((k:Int)≤12)=true:=by rw[decide_eq_true_eq];omega
    by_cases s1:m≤6
    rotate_left
    · have f7:decide ((m:Int)≤6)=false:=by rw[decide_eq_false_iff_not];omega
      go_wp2_with fail
      go_ret
      exact FewAR.no B
    have f7:decide ((m:Int)≤6)=true:=by rw[decide_eq_true_eq];omega
    have HS:Hid (k≤12∧m≤6):=Lib.hid ⟨s0,s1⟩
    clear s0 s1
    go_wp2_with fail
    go_ret
    exact⟨_,rfl,fun _=>⟨HS.out.1,HS.out.2,HOK.out⟩,B⟩
end Go.Proofs.YtlmgolkgodfmpaaGreatDoor
