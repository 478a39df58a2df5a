/- Catalogs. -/
import Derived.Test.YtefcmdmfgdcpmaaGreatDoorDsA
import Derived.Test.YtefcmdmfgdcpmaaGreatDoorRdA
import Derived.Test.YtefcmdmfgdcpmaaGreatDoorEn
set_option maxRecDepth 4000
set_option maxHeartbeats 800000
namespace Go.Proofs.YtefcmdmfgdcpmaaGreatDoor.Vp
def word(s:List UInt8):Bool:=Ds.name s&&decide ((Ds.pieces s).length=1)
def own(s:List UInt8):Bool:=s.isEmpty || word s
def rng(lo hi:Int)(ns:List Int):Bool:=ns.all fun n=>decide (lo<=n)&&decide (n<=hi)
theorem zhE(ns:List Int)(z lo:Int):lo<=ns.foldl min z↔lo<=z∧∀ n∈ns,lo<=n:=by
 induction ns generalizing z with
 | nil=>simp
 | cons a r ih =>
   rw[List.foldl_cons,ih];constructor
   · rintro ⟨h1,h2⟩;refine⟨by omega,fun n hn=>?_⟩
     rcases List.mem_cons.1 hn with rfl|hn
     · omega
     · exact h2 n hn
   · rintro ⟨h1,h2⟩;have:=h2 a (by simp);exact⟨by omega,fun n hn=>h2 n (by simp [hn])⟩
theorem zhD(ns:List Int)(z hi:Int):ns.foldl max z<=hi↔z<=hi∧∀ n∈ns,n<=hi:=by
 induction ns generalizing z with
 | nil=>simp
 | cons a r ih =>
   rw[List.foldl_cons,ih];constructor
   · rintro ⟨h1,h2⟩;refine⟨by omega,fun n hn=>?_⟩
     rcases List.mem_cons.1 hn with rfl|hn
     · omega
     · exact h2 n hn
   · rintro ⟨h1,h2⟩;have:=h2 a (by simp);exact⟨by omega,fun n hn=>h2 n (by simp [hn])⟩
theorem rng_iff(lo hi:Int)(ns:List Int)(h:ns≠[]):rng lo hi ns=(decide (lo<=Lib.minOf ns)&&decide (Lib.maxOf ns<=hi)):=by
 unfold Lib.minOf Lib.maxOf rng;rcases ns with _|⟨a,r⟩
 · exact absurd rfl h
 · rw[Bool.eq_iff_iff,Bool.and_eq_true,decide_eq_true_eq,decide_eq_true_eq,zhE,zhD,List.all_eq_true];simp only[List.headD_cons,Bool.and_eq_true,decide_eq_true_eq]
   constructor
   · intro h1;exact⟨⟨(h1 a (by simp)).1,fun n hn=>(h1 n hn).1⟩,⟨(h1 a (by simp)).2,fun n hn=>(h1 n hn).2⟩⟩
   · rintro ⟨⟨_,h1⟩,⟨_,h2⟩⟩ n hn;exact⟨h1 n hn,h2 n hn⟩
end Go.Proofs.YtefcmdmfgdcpmaaGreatDoor.Vp
namespace Go.Proofs.YtefcmdmfgdcpmaaGreatDoor
section
open Go.RowKit
theorem zij(lo hi:Int)(b c:Nat)(ns:List Int)(w:World)(h0:0<ns.length)(h1:ns.length<=1000)(hc:∀ j,j<ns.length->w.cell? ⟨b,0+j,none⟩=some (.int .i64 (ns.getD j 0))) :
  Calls Tryz.prog 81 #[.int .i64 lo,.int .i64 hi,.slice (some ⟨b,0,none⟩) ns.length c] w fun e w'=>e=.returned (.bool (Vp.rng lo hi ns))∧w=w':=by
 have hz:ns.length<=9223372036854775807:=Nat.le_trans h1 (by decide);have hmin:=Tryz.slices_Min_int b 0 ns.length c ns w h0 (Nat.le_refl _) hz hc;have hmax:=Tryz.slices_Max_int b 0 ns.length c ns w h0 (Nat.le_refl _) hz hc;rw[List.take_length] at hmin hmax;rw[Vp.rng_iff lo hi ns (by intro e;rw[e] at h0;simp at h0)];have e0:((ns.length:Int)==0)=false:=by rw[beq_eq_false_iff_ne];omega
 generalize Lib.minOf ns=mi at hmin ⊢;generalize Lib.maxOf ns=ma at hmax ⊢;generalize ns.length=n at hmin hmax e0 h0 h1 ⊢;clear hc hz;by_cases h:lo<=mi
 · rw[decide_eq_true h,Bool.true_and];go_enter Tryz.func81,Tryz.ntmps81
   go_wp2_with (first|((with_reducible refine hmin.mono ?_);rintro e w' ⟨rfl,rfl⟩)|((with_reducible refine hmax.mono ?_);rintro e w' ⟨rfl,rfl⟩))
   go_ret
   exact⟨rfl,rfl⟩
 · rw[decide_eq_false h,Bool.false_and];have hd:decide (lo<=mi)=false:=decide_eq_false h;clear h;go_enter Tryz.func81,Tryz.ntmps81
   go_wp2_with (first|((with_reducible refine hmin.mono ?_);rintro e w' ⟨rfl,rfl⟩)|((with_reducible refine hmax.mono ?_);rintro e w' ⟨rfl,rfl⟩))
   go_ret
   exact⟨rfl,rfl⟩
theorem zmd(l:List UInt8)(c:UInt8):decide (0<=Lib.indexByte l c)=!decide (l.count c=0):=by
 rw[<-Lib.contains_iff_indexByte,Bool.eq_iff_iff,List.contains_iff_mem,Bool.not_eq_true',decide_eq_false_iff_not,List.count_eq_zero,Classical.not_not]
theorem zhd(s:ByteArray)(w:World)(hm:MaxL w) :
  Calls Tryz.prog 82 #[.string s] w fun e w'=>e=.returned (.bool (Vp.word (Ds.bl s)))∧Below w.heap.size w w':=by
 unfold Vp.word
 have hp:decide ((Ds.pieces (Ds.bl s)).length=1)=!decide (0<=Lib.indexByte s.data.toList 46):=by
  rw[zmd,Ds.pieces_len,Bool.not_not,Bool.eq_iff_iff,decide_eq_true_eq,decide_eq_true_eq];exact⟨fun h=>(show (Ds.bl s).count 46=0 by omega),fun h=>by have:(Ds.bl s).count 46=0:=h;omega⟩
 rw[hp];have hv:=zbh s w hm;have hc:=fun W=>Tryz.strings_Contains_one s 46 W
 generalize decide (0<=Lib.indexByte s.data.toList 46)=x at hc ⊢;generalize Ds.name (Ds.bl s)=y at hv ⊢;clear hp;cases y
 · go_enter Tryz.func82,Tryz.ntmps82
   go_wp2_with (first|((with_reducible refine hv.mono ?_);rintro e w' ⟨rfl,B⟩)|((with_reducible refine (hc _).mono ?_);rintro e w2 ⟨rfl,rfl⟩))
   go_ret
   exact⟨rfl,B⟩
 · go_enter Tryz.func82,Tryz.ntmps82
   go_wp2_with (first|((with_reducible refine hv.mono ?_);rintro e w' ⟨rfl,B⟩)|((with_reducible refine (hc _).mono ?_);rintro e w2 ⟨rfl,rfl⟩))
   go_ret
   exact⟨rfl,B⟩
theorem zcV(lo hi n:Int)(b:Nat)(w:World)(hc:w.cell? ⟨b,0,none⟩=some (.int .i64 n)) :
  Calls Tryz.prog 81 #[.int .i64 lo,.int .i64 hi,.slice (some ⟨b,0,none⟩) 1 1] w fun e w'=>e=.returned (.bool (Vp.rng lo hi [n]))∧w=w' :=
 zij lo hi b 1 [n] w (by simp) (by simp) (fun j hj=>by
  obtain rfl:j=0:=by simpa using hj
  simpa using hc)
end
end Go.Proofs.YtefcmdmfgdcpmaaGreatDoor
section
namespace Go.Proofs.YtefcmdmfgdcpmaaGreatDoor
open Go.RowKit
attribute [local go_sem] zaC zaE zbX zbK zbL zbg zbb zbM zbs
namespace Vp
def grp(e:En):Bool:=rng 1 63 [e.lim]&&rng 0 9999 [e.last]&&own (Ds.bl e.owner)
end Vp
theorem zpr(e:En)(al gr:Value)(w:World)(hm:MaxL w) :
  Calls Tryz.prog 80 #[.agg (e.vals al gr)] w fun r w'=>r=.returned (.bool (Vp.grp e))∧Below w.heap.size w w':=by
 have h1:=fun W b h=>zcV 1 63 e.lim b W h
 have h2:=fun W b h=>zcV 0 9999 e.last b W h
 unfold Vp.grp Vp.own;generalize Vp.rng 1 63 [e.lim]=x at h1 ⊢;generalize Vp.rng 0 9999 [e.last]=y at h2 ⊢;have hw:=fun W (h:MaxL W)=>zhd e.owner W h
 cases x
 · go_enter Tryz.func80,Tryz.ntmps80
   go_wp2_with ((with_reducible refine (h1 _ _ (by simp [go_sem])).mono ?_);rintro _ w' ⟨rfl,rfl⟩)
   go_ret
   exact⟨rfl,by exact zbo⟩
 cases y
 · go_enter Tryz.func80,Tryz.ntmps80
   go_wp2_with (first|((with_reducible refine (h1 _ _ (by simp [go_sem])).mono ?_);rintro _ w' ⟨rfl,rfl⟩)|((with_reducible refine (h2 _ _ (by simp [go_sem])).mono ?_);rintro _ w' ⟨rfl,rfl⟩))
   go_ret
   exact⟨rfl,by exact zbo⟩
 by_cases h0:e.owner.size=0
 · have e0:e.owner.toList.isEmpty=true:=zb7 _ h0;have e1:(Ds.bl e.owner).isEmpty=true:=by rw[List.isEmpty_iff_length_eq_zero,Ds.bl_length];exact h0
   rw[e1];clear h0 e1;go_enter Tryz.func80,Tryz.ntmps80
   go_wp2_with (first|((with_reducible refine (h1 _ _ (by simp [go_sem])).mono ?_);rintro _ w' ⟨rfl,rfl⟩)|((with_reducible refine (h2 _ _ (by simp [go_sem])).mono ?_);rintro _ w' ⟨rfl,rfl⟩))
   go_ret
   exact⟨rfl,by exact zbo⟩
 · have e0:e.owner.toList.isEmpty=false:=zbH _ (by omega);have e1:(Ds.bl e.owner).isEmpty=false:=by rw[Bool.eq_false_iff,Ne,List.isEmpty_iff_length_eq_zero,Ds.bl_length];exact h0
   rw[e1];clear h0 e1;go_enter Tryz.func80,Tryz.ntmps80
   go_wp2_with (first|((with_reducible refine (h1 _ _ (by simp [go_sem])).mono ?_);rintro _ w' ⟨rfl,rfl⟩)|((with_reducible refine (h2 _ _ (by simp [go_sem])).mono ?_);rintro _ w' ⟨rfl,rfl⟩)|((with_reducible refine (hw _ (hm.below (by exact zbo))).mono ?_);rintro _ w' ⟨rfl,B⟩))
   go_ret
   exact⟨rfl,Below.trans (by exact zbo) (B.mono (by simp;omega))⟩
end Go.Proofs.YtefcmdmfgdcpmaaGreatDoor
end
