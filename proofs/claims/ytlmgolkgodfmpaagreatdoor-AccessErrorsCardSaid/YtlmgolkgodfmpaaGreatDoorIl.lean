/- Lists of numbers however long: readable; the reference's Ints at one list, alternates, Valid, Encode at more than four alternates. -/
import Derived.Test.YtlmgolkgodfmpaaGreatDoorRtF
import Derived.Test.YtlmgolkgodfmpaaGreatDoorRsA
namespace Go.Proofs.YtlmgolkgodfmpaaGreatDoor
open Go.RowKit
set_option maxHeartbeats 8000000
set_option maxRecDepth 8000
set_option linter.unusedSimpArgs false
def IL (w:World) (a:Option Addr) (n:Nat) (F:Nat→Int):Prop:=n≤9223372036854775807∧∀ k,k<n→∃ b o,a=some ⟨b,o,none⟩∧b<w.heap.size∧w.cell? ⟨b,o+k,none⟩=some (.int .i64 (F k))
theorem IL.below {w w':World} {a:Option Addr} {n:Nat} {F:Nat→Int} (h:IL w a n F) (hb:Below w.heap.size w w'):IL w' a n F :=
 ⟨h.1,fun k hk=>by
  obtain⟨b,o,h1,h2,h3⟩:=h.2 k hk
  exact⟨b,o,h1,Nat.lt_of_lt_of_le h2 hb.size,(hb.cell (p:=⟨b,o+k,none⟩) h2).trans h3⟩⟩
theorem rints_il (a:Option Addr) (n c:Nat) (F:Nat→Int) (w:World) (h:IL w a n F) :
  Calls Tryz.prog 63 #[.slice a n c,.slice a n c] w fun e w'=>e=.returned (.bool true)∧Below w.heap.size w w':=by
 have H:=Lib.hid h.2
 have hn63:=h.1
 clear h
 go_enter Tryz.func63,Tryz.ntmps63
 go_wp2_with fail
 go_loopw [5] (fun i wr=>∃ k:Nat,k≤n∧i=.int .i64 k∧∃ q,wr=w.drewN q) (fun i _=>n - (intOf i).toNat)
 case atStart=>exact⟨0,Nat.zero_le _,rfl,0,rfl⟩
 case round =>
  obtain⟨k,hk,rfl,q,rfl⟩:=hrel
  by_cases hlt:k<n
  · obtain⟨b1,o1,rfl,-,p1⟩:=H.out k hlt
    have i0:(0:Int)≤(k:Int):=by omega
    have i1:(k:Int)<(n:Int):=by omega
    have q1:(F k==F k)=true:=by simp
    have q2:(F k != F k)=false:=by simp
    go_wp2_with fail
    go_quiet (fail)
    go_wp2_with fail
    go_roundw
    case rel=>exact⟨k+1,by omega,by go_num,_,rfl⟩
    case measure=>simp [intOf];omega
  · obtain rfl:k=n:=by omega
    go_wp2_with fail
    go_ret
    exact⟨rfl,below_drewN (Below.refl _ _) _⟩
theorem ralts_il (a:Option Addr) (n c:Nat) (F:Nat→Int) (w:World) (h:IL w a n F) (h4:4<n) :
  Calls Tryz.prog 53 #[.slice a n c] w fun r w'=>r=.returned (.bool false)∧Below w.heap.size w w':=by
 have HC:=Lib.hid h.2
 have hn63:=h.1
 clear h
 go_enter Tryz.func53,Tryz.ntmps53
 go_wp2_with fail
 go_loopw [3] (fun i wr=>∃ k:Nat,k≤n∧i=.int .i64 k∧Below w.heap.size w wr) (fun i _=>n - (intOf i).toNat)
 case atStart=>exact⟨0,by omega,rfl,Below.refl _ _⟩
 case round =>
  obtain⟨k,hk,rfl,B1⟩:=hrel
  by_cases hlt:k<n
  · obtain⟨b,o,rfl,hb,hcell⟩:=HC.out k hlt
    have c0:=(B1.cell (p:=⟨b,o+k,none⟩) hb).trans hcell
    have hprev:∀ i,k=i+1→wr.cell? ⟨b,o+i,none⟩=some (.int .i64 (F i)):=fun i hi=>by
     obtain⟨b',o',e,hb',h'⟩:=HC.out i (by omega)
     cases e
     exact (B1.cell (p:=⟨b,o+i,none⟩) hb').trans h'
    have HPREV:=Lib.hid hprev
    clear hprev hcell HC
    have i0:(0:Int)≤(k:Int):=by omega
    have i1:(k:Int)<(n:Int):=by omega
    generalize F k=x at c0
    cases g0:decide (x<1)
    rotate_left 1
    · clear HPREV
      go_upto_region 4 with fail
      go_quiet (fail)
      go_wp2_with fail
      go_ret
      exact⟨rfl,below_drewN B1 _⟩
    cases g1:decide (1099511627776<x)
    rotate_left 1
    · clear HPREV
      go_upto_region 4 with fail
      go_quiet (fail)
      go_wp2_with fail
      go_ret
      exact⟨rfl,below_drewN B1 _⟩
    cases k with
    | zero =>
      simp only[Nat.add_zero] at c0
      clear HPREV
      go_upto_region 4 with fail
      go_quiet (fail)
      go_wp2_with fail
      go_roundw
      case rel=>exact⟨0+1,by omega,by go_num,below_drewN B1 _⟩
      case measure=>simp [intOf];omega
    | succ i =>
      have cm:=HPREV.out i rfl
      have e1:IntKind.i64.wrap (((i+1:Nat):Int) - 1)=(i:Int):=by rw[IntKind.wrap_i64];omega
      have i2:(0:Int)≤(i:Int):=by omega
      have i3:(i:Int)<(n:Int):=by omega
      generalize F i=m at cm
      clear HPREV
      cases g2:decide (x≤m)
      rotate_left 1
      · go_upto_region 4 with fail
        go_quiet (fail)
        go_wp2_with fail
        go_ret
        exact⟨rfl,below_drewN B1 _⟩
      · go_upto_region 4 with fail
        go_quiet (fail)
        go_wp2_with fail
        go_roundw
        case rel=>exact⟨i+1+1,by omega,by go_num,below_drewN B1 _⟩
        case measure=>simp [intOf];omega
  · obtain rfl:k=n:=by omega
    have e1:decide ((k:Int)≤4)=false:=by rw[decide_eq_false_iff_not];omega
    go_wp2_with fail
    go_ret
    exact⟨rfl,B1⟩
theorem rsame_anyL (e f:En) (aa:Option Addr) (nn cc:Nat) (gr:Value) (g:List Gr) (w:World) (hn:nn≠0) (h2:GS w gr g) :
  Calls Tryz.prog 13 #[.agg (e.vals (.slice aa nn cc) gr),.agg (f.vals (.slice none 0 0) (.slice none 0 0))] w fun r w'=>r=.returned (.bool false)∧Below w.heap.size w w':=by
 cases hg:g with
 | nil=>subst hg;exact rsameL e f aa nn cc gr (.slice none 0 0) [] w hn h2 (GS.nil w)
 | cons x r =>
   obtain⟨a2,c2,rfl,-⟩:=id h2
   subst hg
   exact rsame_lens e f _ _ a2 none (x::r).length 0 c2 0 w (by simp)
theorem and4_f:∀ b y x z:Bool,(b&&(y&&(x&&(false&&z))))=false:=by decide
theorem rva_long (e:En) (a:Option Addr) (n c:Nat) (F:Nat→Int) (gr:Value) (g:List Gr) (w:World) (hI:IL w a n F) (h4:4<n) (h2:GS w gr g) (hsz:e.name.size≤60) :
  Calls Tryz.prog 11 #[.agg (e.vals (.slice a n c) gr)] w fun r w'=>r=.returned (.bool false)∧Below w.heap.size w w':=by
 have hs:=fun f W (B:Below w.heap.size w W)=>rsame_anyL e f a n c gr g W (by omega) (h2.below B)
 by_cases k0:e.kind=0
 · have ha:=fun W (B:Below w.heap.size w W)=>ralts_il a n c F W (hI.below B) h4
   obtain⟨a2,c2,rfl,-⟩:=id h2
   cases hg:g with
   | nil =>
     subst hg
     obtain⟨b,hb⟩:∃ b:Bool,∀ W,Below w.heap.size w W→Calls Tryz.prog 13 #[.agg (e.vals (.slice a n c) (.slice a2 0 c2)),.agg ((onlyD e).vals (.slice a n c) (.slice none 0 0))] W fun r w'=>r=.returned (.bool b)∧Below W.heap.size W w':=⟨_,fun W B=>rsame_g e (onlyD e) (.slice a n c) (.slice a n c) a2 none c2 0 [] true W (h2.below B) (GS.nil W) fun W2 B2=>rints_il a n c F W2 ((hI.below B).below B2)⟩
     refine (rvalid0 e false a n c (.slice a2 0 c2) b w k0 ha hsz hb).mono ?_
     rintro r w' ⟨rfl,hb⟩
     exact⟨ret_bool (and4_f _ _ _ _),hb⟩
   | cons x r =>
     subst hg
     refine (rvalid0 e false a n c _ false w k0 ha hsz fun W B=>rsame_lens e (onlyD e) _ _ a2 none (x::r).length 0 c2 0 W (by simp)).mono ?_
     rintro r w' ⟨rfl,hb⟩
     exact⟨rfl,hb⟩
 by_cases k1:e.kind=1
 · exact (rvalid1b e _ gr false w k1 hsz (hs (onlyG e))).mono fun r w' ⟨h,hb⟩=>⟨h.trans (ret_bool (Bool.false_and _)),hb⟩
 by_cases k2:e.kind=2
 · exact (rvalid2 e _ gr false w k2 hsz (hs (onlyA e))).mono fun r w' ⟨h,hb⟩=>⟨h.trans (ret_bool (Bool.false_and _)),hb⟩
 by_cases k3:e.kind=3
 · exact (rvalid3 e _ gr false w k3 hsz (hs (onlyC e))).mono fun r w' ⟨h,hb⟩=>⟨h.trans (ret_bool (Bool.false_and _)),hb⟩
 by_cases k4:e.kind=4
 · obtain⟨a2,c2,rfl,-⟩:=id h2
   exact (rvalid4 e _ a2 g.length c2 g false w k4 h2 hsz fun W B=>rsameL e (onlyP e) a n c _ _ g W (by omega) (h2.below B) (h2.below B)).mono fun r w' ⟨h,hb⟩=>⟨h.trans (ret_bool (Bool.false_and _)),hb⟩
 · exact (rvalidN e _ gr false w (by omega) hsz (hs (onlyN e))).mono fun r w' ⟨h,hb⟩=>⟨h.trans (ret_bool (Bool.false_and _)),hb⟩
theorem IL.is {w:World} {a:Option Addr} {n:Nat} {F:Nat→Int} (h:IL w a n F) (c:Nat) (hn:n≤1000000):IS w (.slice a n c) ((List.range n).map F):=by
 refine⟨a,c,by simp,by simpa using hn,fun h0=>?_⟩
 rw[List.length_map,List.length_range] at h0
 obtain⟨b,o,ha,hb,-⟩:=h.2 0 h0
 refine⟨b,o,ha,hb,fun k hk=>?_⟩
 rw[List.length_map,List.length_range] at hk
 obtain⟨b',o',ha',-,h3⟩:=h.2 k hk
 rw[ha] at ha'
 cases ha'
 rw[h3]
 simp
theorem rec_geI (x:Fu) (h:okX x=true):32≤(recX x).length:=by
 unfold recX
 rw[List.length_append,keyX_len x h]
 omega
def EncE (e:En) (al gr:Value) (w:World) (E:Option (List UInt8)):Prop :=
 (∀ W,Below w.heap.size w W→Calls Tryz.prog 107 #[.agg (e.vals al gr)] W fun r w'=>∃ t,r=.returned (.tuple #[.string t,.int .i64 (match E with | none=>1 | some _=>0)])∧(∀ s,E=some s→Ds.bl t=s∧32≤s.length)∧Below W.heap.size W w')∧∀ s,E=some s→∃ y:Fu,okX y=true∧recX y=s
theorem renc_el (e:En) (a:Option Addr) (n c:Nat) (F:Nat→Int) (gr:Value) (g:List Gr) (w:World) (hI:IL w a n F) (h2:GS w gr g) (hsz:e.name.size≤60):∃ E,EncE e (.slice a n c) gr w E:=by
 by_cases h4:n≤4
 · refine⟨if okX (e,(List.range n).map F,g)=true then some (recX (e,(List.range n).map F,g)) else none,fun W B=>?_,fun s hs=>?_⟩
   · refine (renc_any (e,(List.range n).map F,g) (.slice a n c) gr W hsz ((hI.is c (by omega)).below B) (h2.below B)).mono ?_
     rintro r w' ⟨t,rfl,ht,hb⟩
     refine⟨t,?_,fun s hs=>?_,hb⟩
     · split <;> rfl
     · split at hs
       · rename_i ho
         cases hs
         rw[if_pos ho] at ht
         exact⟨ht,rec_geI _ ho⟩
       · cases hs
   · split at hs
     · rename_i ho
       cases hs
       exact⟨_,ho,rfl⟩
     · cases hs
 · obtain⟨a2,c2,rfl,-⟩:=id h2
   refine⟨none,fun W B=>?_,fun s hs=>by cases hs⟩
   refine (rencode e (.slice a n c) a2 g.length c2 false [] W rfl (fun W2 B2=>rva_long e a n c F _ g W2 ((hI.below B).below B2) (by omega) ((h2.below B).below B2) hsz) (fun h=>by cases h)).mono ?_
   rintro r w' ⟨t,rfl,-,hb⟩
   exact⟨t,rfl,(fun s hs=>by cases hs),hb⟩
end Go.Proofs.YtlmgolkgodfmpaaGreatDoor
