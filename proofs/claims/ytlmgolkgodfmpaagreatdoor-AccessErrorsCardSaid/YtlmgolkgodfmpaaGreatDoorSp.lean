/- Profiles of rows of valid entries with a reader that fails at one call: how many calls there are, and what comes of them. No program in sight. -/
import Derived.Test.YtlmgolkgodfmpaaGreatDoorSo
namespace Go.Proofs.YtlmgolkgodfmpaaGreatDoor
set_option maxHeartbeats 1600000
set_option maxRecDepth 8000
theorem aft_len {k k':List UInt8} {S:List Rw} {x:Rw} (h:aft k S=x::aft k' S):(aft k S).length=(aft k' S).length+1:=by rw[h];rfl
theorem proF_good (l:List Rw) (id fl cd:Int) (hd:DstL l) (hall:∀ x∈l,x.1=id∧∃ y,decX (Ds.bl x.2.2)=some y∧keyX y=kyR x):∀ (f:Nat) (ca:Int) (k:List UInt8) (out:List Fu),0≤ca→ca<fl→cnt id k l<f→(∀ x∈l,ltB k (kyR x)=true→(kyR x).head?=some 80) →
  (fl≤ca+((aft k (srt id 80 l)).length:Int)+1→(proF l id fl cd f ca k out)=([],cd,fl)) ∧
  (ca+((aft k (srt id 80 l)).length:Int)+1<fl→∃ ys:List Fu,ys.length=(aft k (srt id 80 l)).length∧(proF l id fl cd f ca k out)=(out++ys,0,ca+((aft k (srt id 80 l)).length:Int)+1))
 | 0,_,_,_,_,_,h,_=>by omega
 | f+1,ca,k,out,hca,hfl,hc,hP=>by
   have hsm:∀ x,x∈srt id 80 l↔x∈l∧inL id 80 x=true:=fun x=>by
    have:=srt_mem id 80 l l.length x
    rwa [List.take_of_length_le (Nat.le_refl _)] at this
   have hss:SrtL (srt id 80 l):=by
    have:=srt_srt id 80 l hd l.length
    rwa [List.take_of_length_le (Nat.le_refl _)] at this
   have hin:∀ x,inL id 80 x=true↔x.1=id∧(kyR x).head?=some 80:=fun x=>by unfold inL;simp
   have hmin:=nx_min id k _ l rfl
   rw[proF]
   by_cases hf1:ca+1=fl
   · rw[if_pos hf1]
     exact⟨fun _=>by rw[hf1],fun h=>by omega⟩
   · rw[if_neg hf1]
     cases hn:nx id k l with
     | none =>
       rw[hn] at hmin
       simp only at hmin ⊢
       have e:aft k (srt id 80 l)=[]:=by
        unfold aft
        rw[List.filter_eq_nil_iff]
        intro y hy
        have h1:=(hsm y).1 hy
        rw[hmin y h1.1 ((hin y).1 h1.2).1];simp
       rw[e]
       exact⟨fun h=>by simp at h;omega,fun _=>⟨[],rfl,by simp⟩⟩
     | some x =>
       obtain⟨hx1,hx2,hx3⟩:=nx_some hn
       rw[hn] at hmin
       simp only at hmin ⊢
       have hh:=hP x hx1 hx3
       have hx80:(Ds.bl x.2.1).headD 0=80:=by
        have h2:=hd_some hx3
        rw[hh] at h2
        exact (by simpa using h2:(80:UInt8)=(kyR x).headD 0).symm
       rw[hx80,if_neg (by decide),if_neg (by decide)]
       obtain⟨-,y,hy1,hy2⟩:=hall x hx1
       rw[hy1]
       simp only
       rw[if_pos hy2]
       have hxs:x∈srt id 80 l:=(hsm x).2 ⟨hx1,(hin x).2 ⟨hx2,hh⟩⟩
       have e:=aft_len (aft_cons hss hxs hx3 fun y hy hky=>by
        have h1:=(hsm y).1 hy
        exact hmin y h1.1 ((hin y).1 h1.2).1 hky)
       have hcl:cnt id (kyR x) l<cnt id k l:=cnt_lt hn
       have ih:=proF_good l id fl cd hd hall f (ca+1) (kyR x) (out++[y]) (by omega) (by omega) (by omega) (fun z hz hk=>hP z hz (ltB_trans hx3 hk))
       rw[e]
       refine⟨fun h=>ih.1 (by push_cast at h;omega),fun h=>?_⟩
       obtain⟨ys,h1,h2⟩:=ih.2 (by push_cast at h;omega)
       refine⟨y::ys,by rw[List.length_cons,h1],?_⟩
       rw[h2,List.append_assoc]
       simp only[List.singleton_append,Prod.mk.injEq,true_and]
       push_cast;omega
end Go.Proofs.YtlmgolkgodfmpaaGreatDoor
