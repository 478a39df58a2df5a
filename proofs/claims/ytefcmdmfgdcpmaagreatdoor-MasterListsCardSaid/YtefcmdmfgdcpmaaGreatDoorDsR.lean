/- Catalogs. -/
import Derived.Test.YtefcmdmfgdcpmaaGreatDoorDsH
set_option maxHeartbeats 400000
section
namespace Go.Proofs.YtefcmdmfgdcpmaaGreatDoor
open Go.RowKit
namespace Ds
end Ds
end Go.Proofs.YtefcmdmfgdcpmaaGreatDoor
end
section
namespace Go.Proofs.YtefcmdmfgdcpmaaGreatDoor
open Go.RowKit
namespace Ds
theorem zm2(l:List UInt8):(pieces l).length<=l.length+1∧∀ q∈pieces l,q.length<=l.length:=by
 induction l with
 | nil=>simp [pieces]
 | cons c r ih =>
   simp only[pieces]
   split
   · refine⟨by simp;omega,fun q hq=>?_⟩
     rcases List.mem_cons.1 hq with rfl|h
     · simp
     · have:=ih.2 q h;simp;omega
   · cases e:pieces r with
     | nil=>exact absurd e (pieces_ne r)
     | cons p ps =>
       rw[e] at ih;refine⟨by have:=ih.1;simp at this ⊢;omega,fun q hq=>?_⟩
       rcases List.mem_cons.1 hq with rfl|h
       · have:=ih.2 p (by simp);simp;omega
       · have:=ih.2 q (by simp [h]);simp;omega
def Got(s:ByteArray)(k:Nat)(qs:List ByteArray)(q:ByteArray):Prop:=qs.map bl++[bl q]=pieces ((bl s).take k)
theorem Got.start(s:ByteArray):Got s 0 [] ⟨#[]⟩:=by unfold Got;rfl
theorem Got.le{s:ByteArray}{k:Nat}{qs:List ByteArray}{q:ByteArray}(h:Got s k qs q)(hk:k<=s.size):qs.length<=k∧q.size<=k:=by
 unfold Got at h;have h1:=zm2 ((bl s).take k);have hl:((bl s).take k).length=k:=by rw[List.length_take,bl_length];omega
 rw[<-h,hl] at h1;refine⟨by have:=h1.1;simp at this;omega,?_⟩
 have:=h1.2 (bl q) (by simp);rwa [bl_length] at this
theorem Got.all{s:ByteArray}{qs:List ByteArray}{q:ByteArray}(h:Got s s.size qs q):(qs++[q]).map bl=pieces (bl s):=by
 unfold Got at h;rw[List.take_of_length_le (by rw[bl_length];exact Nat.le_refl _)] at h;simpa using h
end Ds
end Go.Proofs.YtefcmdmfgdcpmaaGreatDoor
end
section
namespace Go.Proofs.YtefcmdmfgdcpmaaGreatDoor
open Go.RowKit
theorem Strs.drewN{w:World}{b:Nat}{ps:List ByteArray}(h:Strs w b ps)(n:Nat):Strs (w.drewN n) b ps:=h
namespace Ds
end Ds
end Go.Proofs.YtefcmdmfgdcpmaaGreatDoor
end
section
namespace Go.Proofs.YtefcmdmfgdcpmaaGreatDoor
open Go.RowKit
namespace Ds
def splG(s:List UInt8):List UInt8:=if gen s then front s else []
def splN(s:List UInt8):Nat:=if gen s then num (last s) else 0
theorem spl_yes(s:List UInt8)(h1:num (last s)≠0)(h2:group (front s)=true):gen s=true∧splG s=front s∧splN s=num (last s):=by
 have:gen s=true:=by unfold gen;rw[h2];simpa using h1
 exact⟨this,by unfold splG;rw[if_pos this],by unfold splN;rw[if_pos this]⟩
theorem spl_no(s:List UInt8)(h:num (last s)=0∨group (front s)=false):gen s=false∧splG s=[]∧splN s=0:=by
 have:gen s=false:=by
  unfold gen;rcases h with h|h <;> simp [h]
 exact⟨this,by unfold splG;rw[this];rfl,by unfold splN;rw[this];rfl⟩
end Ds
namespace Ds
end Ds
end Go.Proofs.YtefcmdmfgdcpmaaGreatDoor
end
