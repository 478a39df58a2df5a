/- Catalogs. -/
import Derived.Test.YtnkjliahpeebjaaGreatDoorDsH
set_option maxHeartbeats 400000
open _root_ renaming ByteArray->Z7,List->Z5,UInt8->ZP
section
namespace Go.Proofs.YtnkjliahpeebjaaGreatDoor
open Go.RowKit
namespace Ds
end Ds
end Go.Proofs.YtnkjliahpeebjaaGreatDoor
end
section
namespace Go.Proofs.YtnkjliahpeebjaaGreatDoor
open Go.RowKit
variable{a:Z5 Z7}{s q:Z7}
namespace Ds
theorem rW(l:Z5 ZP):(pieces l).length<=l.length+1/\∀ q∈pieces l,q.length<=l.length:=by
 induction l with
 | nil=>simp [pieces]
 | cons c r i =>
   simp only[pieces]
   split
   .refine⟨by simp;omega,fun q H=>?_⟩
    rcases List.mem_cons.1 H with rfl|h
    .simp
    .have:=i.2 q h;simp;omega
   .cases e:pieces r with
    | nil=>exact absurd e (pieces_ne r)
    | cons p P =>
      rw[e] at i;refine⟨by have:=i.1;simp at this |-;omega,fun q H=>?_⟩
      rcases List.mem_cons.1 H with rfl|h
      .have:=i.2 p (by simp);simp;omega
      .have:=i.2 q (by simp [h]);simp;omega
def Got(s:Z7)(k:Nat)(a:Z5 Z7)(q:Z7):Prop:=a.map bl++[bl q]=pieces ((bl s).take k)
theorem Got.start(s:Z7):Got s 0 [] ⟨#[]⟩:=by unfold Got;rfl
theorem Got.le{k:Nat}(h:Got s k a q)(b:k<=s.size):a.length<=k/\q.size<=k:=by
 unfold Got at h;have H:=rW ((bl s).take k);have l:((bl s).take k).length=k:=by rw[List.length_take,bl_length];omega
 rw[<-h,l] at H;refine⟨by have:=H.1;simp at this;omega,?_⟩
 have:=H.2 (bl q) (by simp);rwa [bl_length] at this
theorem Got.all(h:Got s s.size a q):(a++[q]).map bl=pieces (bl s):=by
 unfold Got at h;rw[List.take_of_length_le (by rw[bl_length];exact Nat.le_refl _)] at h;simpa using h
end Ds
end Go.Proofs.YtnkjliahpeebjaaGreatDoor
end
section
namespace Go.Proofs.YtnkjliahpeebjaaGreatDoor
open Go.RowKit
theorem Strs.drewN{w:World}{b:Nat}{p:Z5 Z7}(h:Strs w b p)(n:Nat):Strs (w.drewN n) b p:=h
namespace Ds
end Ds
end Go.Proofs.YtnkjliahpeebjaaGreatDoor
end
section
namespace Go.Proofs.YtnkjliahpeebjaaGreatDoor
open Go.RowKit
namespace Ds
def splG(s:Z5 ZP):Z5 ZP:=if gen s then front s else []
def splN(s:Z5 ZP):Nat:=if gen s then num (last s) else 0
theorem spl_yes(s:Z5 ZP)(h:num (last s)≠0)(H:group (front s)=true):gen s=true/\splG s=front s/\splN s=num (last s):=by
 have:gen s=true:=by unfold gen;rw[H];simpa using h
 exact⟨this,by unfold splG;rw[if_pos this],by unfold splN;rw[if_pos this]⟩
theorem spl_no(s:Z5 ZP)(h:num (last s)=0\/group (front s)=false):gen s=false/\splG s=[]/\splN s=0:=by
 have:gen s=false:=by
  unfold gen;rcases h with h|h <;> simp [h]
 exact⟨this,by unfold splG;rw[this];rfl,by unfold splN;rw[this];rfl⟩
end Ds
namespace Ds
end Ds
end Go.Proofs.YtnkjliahpeebjaaGreatDoor
end
