/- Contracts of the reference of chapter 33: Encode, whatever the kind, from its parts. -/
import Derived.Test.YtnojclchnhmggaaGreatDoorRuC
import Derived.Test.YtnojclchnhmggaaGreatDoorSaL
import Derived.Test.YtnojclchnhmggaaGreatDoorCoA
import Derived.Test.YtnojclchnhmggaaGreatDoorAcA
import Derived.Deep.RegionHeld3
namespace Go.Proofs.YtnojclchnhmggaaGreatDoor
open Go.RowKit
set_option maxRecDepth 8000
set_option maxHeartbeats 8000000
section
theorem rbool (y:Bool) (w:World):Calls Tryz.prog 258 #[.bool y] w fun r w'=>r=.returned (.string ⟨#[tb y]⟩)∧w=w':=by
 cases y
 · go_enter Tryz.func258,Tryz.ntmps258
   go_wp2_with fail
   go_ret
   exact⟨rfl,rfl⟩
 · go_enter Tryz.func258,Tryz.ntmps258
   go_wp2_with fail
   go_ret
   exact⟨rfl,rfl⟩
def encB (n:Nat):ByteArray:=⟨(Wi.enc n).toArray⟩
theorem encB_bl (n:Nat):Ds.bl (encB n)=Wi.enc n:=Ds.bl_mk _
theorem encB_size (n:Nat) (h:n<2 ^ 64):(encB n).size<=10:=by
 rw[<-Ds.bl_length,encB_bl];exact Wi.enc_len 9 n (Nat.lt_of_lt_of_le h (by decide))
theorem belowd {w w1:World} {o:Obj} (hb:Below (w.alloc o).drew.heap.size (w.alloc o).drew w1):Below w.heap.size w w1 :=
 (Below.drew ((Below.refl w.heap.size w).alloc (Nat.le_refl _) o)).trans (hb.mono (by simp))
theorem belowe {w w1:World} (hb:Below w.drew.heap.size w.drew w1):Below w.heap.size w w1:=(Below.drew (Below.refl w.heap.size w)).trans hb
theorem rnumber:∀ (n:Nat),n<2 ^ 64->∀ w:World,Calls Tryz.prog 287 #[.int .u64 n] w fun r w'=>r=.returned (.string (encB n))∧Below w.heap.size w w':=by
 intro n
 induction n using Nat.strongRecOn with
 | _ n ih =>
   intro hn w
   by_cases h:n<128
   · have hb:IntKind.u8.wrap (n:Int)=((UInt8.ofNat n).toNat:Nat):=by rw[Wi.u8_of n (by omega)];exact IntWalk.u8_in _ ⟨by omega,by omega⟩
     have hcv:=conv_at (UInt8.ofNat n)
     have D:Hid (encB n=⟨#[UInt8.ofNat n]⟩):=Lib.hid (by unfold encB;rw[Wi.enc_lt n h])
     go_enter Tryz.func287,Tryz.ntmps287
     go_wp2_with fail
     go_ret
     exact⟨by rw[D.out];rfl,by exact belA⟩
   · have hq:n / 128<n:=Nat.div_lt_self (by omega) (by decide)
     have hc:=fun W=>ih (n / 128) hq (by omega) W
     rw[show ((n / 128:Nat):Int)=(n:Int) / 128 by omega] at hc
     have hw1:IntKind.u64.wrap ((n:Int) % 128+128)=(n:Int) % 128+128:=by rw[IntKind.wrap_u64];omega
     have hm1:(n:Int).tmod 128=(n:Int) % 128:=Int.tmod_eq_emod_of_nonneg (by omega)
     have hd1:IntKind.u64.wrap ((n:Int) / 128)=(n:Int) / 128:=by rw[IntKind.wrap_u64];omega
     have hb:IntKind.u8.wrap ((n:Int) % 128+128)=((UInt8.ofNat (n % 128+128)).toNat:Nat):=by rw[Wi.u8_of _ (by omega)];rw[IntWalk.u8_in _ ⟨by omega,by omega⟩];omega
     have hcv:=conv_at (UInt8.ofNat (n % 128+128))
     have hz:=encB_size (n / 128) (by omega)
     have D:Hid (encB n=(⟨#[UInt8.ofNat (n % 128+128)]⟩:ByteArray)++encB (n / 128)):=Lib.hid (by
      unfold encB;rw[Wi.enc_ge n (by omega),ba_append];simp)
     have HC:=Lib.hid hc
     have l1:¬ 9223372036854775807<1+(encB (n / 128)).size:=by omega
     clear hc ih
     generalize UInt8.ofNat (n % 128+128)=cc at hb hcv D
     generalize encB (n / 128)=tt at HC hz D l1
     go_enter Tryz.func287,Tryz.ntmps287
     go_wp2_with fail
     go_region_law (first | (go_simp;go_at_call 287;(with_reducible refine (HC.out _).mono ?_);rintro _ w2 ⟨rfl,hb2⟩;(first | (have cb:w2.cell? ⟨w.heap.size,0,none⟩=some (.int .u8 (cc.toNat:Nat)):=(by simpa using slice_kept hb2)) | skip)))
     all_goals
      go_wp2_with fail
      go_ret
      exact⟨by rw[D.out];rfl,by first | exact belowd hb2 | exact Below.alloc (belowe hb2) (belowe hb2).size _ | exact belowe hb2⟩
theorem rtext (s:ByteArray) (w:World) (hs:s.size<=1000) :
  Calls Tryz.prog 246 #[.string s] w fun r w'=>r=.returned (.string (encB s.size++s))∧Below w.heap.size w w':=by
 have hc:=fun W=>rnumber s.size (by omega) W
 have hz:=encB_size s.size (by omega)
 have hw:IntKind.u64.wrap (s.size:Int)=(s.size:Int):=by rw[IntKind.wrap_u64];omega
 have HC:=Lib.hid hc
 have l1:¬ 9223372036854775807<(encB s.size).size+s.size:=by omega
 clear hc
 generalize encB s.size=t at HC hz l1 ⊢
 go_enter Tryz.func246,Tryz.ntmps246
 go_wp2_with (go_at_call 287;(with_reducible refine (HC.out _).mono ?_);rintro _ w2 ⟨rfl,hb⟩)
 go_ret
 exact⟨rfl,hb⟩
theorem encs_app:∀ (a b:List Nat),encs (a++b)=encs a++encs b
 | [],b=>rfl
 | n::a,b=>by simp only[List.cons_append,encs,encs_app a b,List.append_assoc]
def encsB (l:List Int):ByteArray:=⟨(encs (l.map Int.toNat)).toArray⟩
theorem encsB_next (l:List Int) (k:Nat) (hk:k<l.length):encsB (l.take (k+1))=encsB (l.take k)++encB l[k].toNat:=by
 unfold encsB encB
 rw[List.take_succ_eq_append_getElem hk,List.map_append,encs_app,ba_append]
 simp [encs]
theorem encs_le10:∀ (l:List Nat),(∀ n∈l,n<2 ^ 64)->(encs l).length<=10*l.length
 | [],_=>by simp [encs]
 | n::r,h=>by
   have h1:=Wi.enc_len 9 n (Nat.lt_of_lt_of_le (h n (by simp)) (by decide))
   have h2:=encs_le10 r (fun m hm=>h m (by simp [hm]))
   simp only[encs,List.length_append,List.length_cons];omega
theorem encsB_size (l:List Int) (h:numsOk l):(encsB l).size<=10*l.length:=by
 unfold encsB
 rw[<-Ds.bl_length,Ds.bl_mk]
 have:=encs_le10 (l.map Int.toNat) (fun n hn=>by have:=nums_nat l h n hn;omega)
 rwa [List.length_map] at this
theorem rnumbers (v:Value) (l:List Int) (w:World) (h:IS w v l) (hl:l.length<=50) (hn:numsOk l) :
  Calls Tryz.prog 257 #[v] w fun r w'=>r=.returned (.string (encsB l))∧Below w.heap.size w w':=by
 obtain⟨a,c,rfl,hz,hc⟩:=id h
 have HI:=Lib.hid h
 have HN:=Lib.hid hn
 have HC:=Lib.hid hc
 clear h hn hc
 go_enter Tryz.func257,Tryz.ntmps257
 go_wp2_with fail
 go_loopw [3,4] (fun t i wr=>∃ k:Nat,k<=l.length∧i=.int .i64 k∧t=.string (encsB (l.take k))∧Below w.heap.size w wr) (fun _ i _=>l.length - (intOf i).toNat)
 case atStart=>exact⟨0,Nat.zero_le _,rfl,rfl,Below.refl _ _⟩
 case round =>
  obtain⟨k,hk,rfl,rfl,B⟩:=hrel
  by_cases hlt:k<l.length
  · obtain⟨b,o,rfl,hb,hcell⟩:=HC.out (by omega)
    have hx:=HN.out _ (List.getElem_mem hlt)
    have c0:=(B.cell (p:=⟨b,o+k,none⟩) hb).trans (hcell k hlt)
    have hcv:IntKind.u64.wrap l[k]=l[k]:=by rw[IntKind.wrap_u64];omega
    have hnum:=fun W=>rnumber l[k].toNat (by omega) W
    rw[Int.toNat_of_nonneg hx.1] at hnum
    have hs1:=encsB_size (l.take k) (fun n hn=>HN.out n (List.mem_of_mem_take hn))
    have hs2:=encB_size l[k].toNat (by omega)
    have HX:=Lib.hid (encsB_next l k hlt)
    rw[List.length_take] at hs1
    clear hcell hx
    generalize encB l[k].toNat=t2 at hnum hs2 HX
    generalize encsB (l.take k)=t1 at hs1 HX ⊢
    generalize l[k]=x at c0 hcv hnum
    have HM:=Lib.hid hnum
    have l1:¬ 9223372036854775807<t1.size+t2.size:=by omega
    clear hnum
    go_wp2_with (go_at_call 287;(with_reducible refine (HM.out _).mono ?_);rintro _ w2 ⟨rfl,hb2⟩)
    go_roundw
    case rel=>exact⟨k+1,by omega,by go_num,by rw[HX.out],bt B hb2⟩
    case measure=>simp [intOf];omega
  · obtain rfl:k=l.length:=by omega
    rw[List.take_length]
    go_wp2_with fail
    go_ret
    exact⟨rfl,B⟩
end
section
theorem is_one1 (w:World) (n:Int) (t:TypeId):IS (w.alloc (.cells #[.int .i64 n] t)) (.slice (some ⟨w.heap.size,0,none⟩) 1 1) [n] :=
 ⟨_,1,rfl,by simp,fun _=>⟨w.heap.size,0,rfl,by simp,fun k hk=>by
  obtain rfl:k=0:=by simpa using hk
  rw[cell_of_row _ w.heap.size (0+0) _ t (0,0) (heap_alloc_new w _)];rfl⟩⟩
theorem is_oneA (W:World) (n:Int) (t:TypeId) (k:Nat) (hk:k=W.heap.size):IS (W.alloc (.cells #[.int .i64 n] t)) (.slice (some ⟨k,0,none⟩) 1 1) [n]:=by
 subst hk;exact is_one1 W n t
theorem is_oneD (W:World) (n:Int) (t:TypeId) (k:Nat) (hk:k=W.heap.size):IS (W.alloc (.cells #[.int .i64 n] t)).drew (.slice (some ⟨k,0,none⟩) 1 1) [n]:=by
 subst hk;exact (is_one1 W n t).below (Below.drew (Below.refl _ _))
theorem keepM {W w1 w2:World} {p0 p1 p2 p3:Addr} {v0 v1 v2 v3:Value} (hb:Below w1.heap.size w1 w2) (s:w1.cell? p0=some v0∧w1.cell? p1=some v1∧w1.cell? p2=some v2∧w1.cell? p3=some v3∧Hid (Below W.heap.size W w1)) :
  w2.cell? p0=some v0∧w2.cell? p1=some v1∧w2.cell? p2=some v2∧w2.cell? p3=some v3∧Hid (Below W.heap.size W w2):=⟨below_cell hb s.1,below_cell hb s.2.1,below_cell hb s.2.2.1,below_cell hb s.2.2.2.1,Lib.hid (bt s.2.2.2.2.out hb)⟩
theorem is_drew {W:World} {v:Value} {l:List Int} (h:IS W v l):IS W.drew v l:=h.below (Below.drew (Below.refl _ _))
theorem keepN {W w1 w2:World} {p0 p1 p2:Addr} {v0 v1 v2:Value} (hb:Below w1.heap.size w1 w2) (s:w1.cell? p0=some v0∧w1.cell? p1=some v1∧w1.cell? p2=some v2∧Hid (Below W.heap.size W w1)) :
  w2.cell? p0=some v0∧w2.cell? p1=some v1∧w2.cell? p2=some v2∧Hid (Below W.heap.size W w2):=⟨below_cell hb s.1,below_cell hb s.2.1,below_cell hb s.2.2.1,Lib.hid (bt s.2.2.2.out hb)⟩
theorem below_al (w:World) (o:Obj):Below w.heap.size w (w.alloc o):=(Below.refl _ _).alloc (Nat.le_refl _) o
theorem nums1 {n:Int} (h:0<=n∧n<=1099511627776):numsOk [n]:=fun x hx=>by rw[List.mem_singleton] at hx;subst hx;exact h
theorem encsB_bl (l:List Int):Ds.bl (encsB l)=encs (l.map Int.toNat):=Ds.bl_mk _
attribute [local go_sem ↓] ldEnt stEnt stEntRow ldDat stDat
attribute [local go_sem] Held_drew isHead_mk headOf_mk cellsOfV_mk isAggV_mk isDat_mk row_new row_new2 row_new2' row_drew row_drewN vals_size vals_dat dat_size allOne_nil allOne_cons one_int one_bool one_string one_pointer one_slice vals_0 vals_1 vals_28 vals_31 vals_32
theorem rbody4 (e:En) (al:Value) (a:Option Addr) (n c:Nat) (g2:List Gr) (w:World) (hk:e.kind=4) (h2:GS w (.slice a n c) g2) (hp:ProfOk e g2) :
  Calls Tryz.prog 195 #[.agg (e.vals al (.slice a n c))] w fun r w'=>∃ t,r=.returned (.string t)∧Ds.bl t=bodyP e g2∧Below w.heap.size w w':=by
 have k0:(e.kind==0)=false:=by rw[hk];rfl
 have k1:(e.kind==1)=false:=by rw[hk];rfl
 have k2:(e.kind==2)=false:=by rw[hk];rfl
 have k3:(e.kind==3)=false:=by rw[hk];rfl
 have hd1:=dat_one e
 obtain⟨a',c',e',hz,-⟩:=id h2
 obtain⟨rfl,rfl,rfl⟩:a=a'∧n=g2.length∧c=c':=by injection e' with x y z;exact⟨x,y,z⟩
 clear e'
 have hp1:=hp.l
 have hp2:e.owner.size<=1000:=Nat.le_trans hp.o (by decide)
 have hp3:=hp.g8
 have HN1:=Lib.hid (fun W v (h:IS W v [e.lev])=>rnumbers v [e.lev] W h (Nat.le_of_ble_eq_true rfl) (nums1 hp1))
 have HN2:=Lib.hid (fun W v (h:IS W v [(g2.length:Int)])=>rnumbers v [(g2.length:Int)] W h (Nat.le_of_ble_eq_true rfl) (nums1 ⟨by omega,by omega⟩))
 have HT:=Lib.hid (fun W=>rtext e.owner W hp2)
 have z1:=encsB_size [e.lev] (nums1 hp1)
 have z2:(encB e.owner.size++e.owner).size<=1010:=by rw[ByteArray.size_append];have:=encB_size e.owner.size (by omega);omega
 have z3:=encsB_size [(g2.length:Int)] (nums1 ⟨by omega,by omega⟩)
 simp only[List.length_cons,List.length_nil] at z1 z3
 have HG:=Lib.hid h2
 have HP:=Lib.hid hp
 clear hk h2 hp
 generalize hA1:encsB [e.lev]=A1 at HN1 z1
 generalize hA2:encB e.owner.size++e.owner=A2 at HT z2
 generalize hA3:encsB [(g2.length:Int)]=A3 at HN2 z3
 have HA:Hid (Ds.bl A1++(Ds.bl A2++Ds.bl A3)=Wi.enc e.lev.toNat++((Wi.enc e.owner.size++Ds.bl e.owner)++Wi.enc g2.length)):=Lib.hid (by
  rw[<-hA1,<-hA2,<-hA3,Ds.bl_append,encB_bl,encsB_bl,encsB_bl];simp [encs])
 clear hA1 hA2 hA3
 have l1:¬ 9223372036854775807<A1.size+A2.size:=by omega
 have l2:¬ 9223372036854775807<A1.size+A2.size+A3.size:=by omega
 have l3:¬ 9223372036854775807<(A1++A2).size+A3.size:=by rw[ByteArray.size_append];omega
 go_enter Tryz.func195,Tryz.ntmps195
 go_upto_region 12 with fail
 have W0:∀ W,W=((w.alloc (.cells (e.vals al (.slice a g2.length c)) 28)).alloc (.cells e.dat 24))->W.drew.cell? ⟨w.heap.size,31,none⟩=some (.int .i64 e.lev)∧W.drew.cell? ⟨w.heap.size,28,none⟩=some (.string e.owner)∧W.drew.cell? ⟨w.heap.size,32,none⟩=some (.slice a g2.length c)∧Hid (Below w.heap.size w W.drew):=fun W hW=>by
  subst hW
  have R:=row_new2 w (e.vals al (.slice a g2.length c)) 28 (0,0) (.cells e.dat 24)
  exact⟨cell_row R 31 _ (vals_31 _ _ _),cell_row R 28 _ (vals_28 _ _ _),cell_row R 32 _ (vals_32 _ _ _),Lib.hid (by exact belA)⟩
 go_cut [1,5] (fun t1 t5 wx=>t1=.pointer (some ⟨w.heap.size,0,none⟩)∧t5=.string ((A1++A2)++A3)∧wx.cell? ⟨w.heap.size,32,none⟩=some (.slice a g2.length c)∧Below w.heap.size w wx)
 case first =>
  go_region_held3 (fun w'=>w'.cell? ⟨w.heap.size,31,none⟩=some (.int .i64 e.lev)∧w'.cell? ⟨w.heap.size,28,none⟩=some (.string e.owner)∧w'.cell? ⟨w.heap.size,32,none⟩=some (.slice a g2.length c)∧Hid (Below w.heap.size w w')) (first | assumption | exact W0 _ rfl | exact keepN hb (by assumption) | exact keepN (below_al _ _) (by assumption)) (first
   | (go_at_call 257;(refine (HN1.out _ _ ?_).mono ?_);(focus ((repeat (first | (with_reducible refine is_oneA _ _ _ _ ?_;first | with_reducible rfl | (simp;done)) | (with_reducible refine is_oneD _ _ _ _ ?_;first | with_reducible rfl | (simp;done)) | (with_reducible apply IS.below;rotate_left 1;with_reducible assumption) | (with_reducible refine IS.below ?_ (below_al _ _)) | (with_reducible refine is_drew ?_)));done));rintro _ w3 ⟨rfl,hb⟩)
   | (go_at_call 257;(refine (HN2.out _ _ ?_).mono ?_);(focus ((repeat (first | (with_reducible refine is_oneA _ _ _ _ ?_;first | with_reducible rfl | (simp;done)) | (with_reducible refine is_oneD _ _ _ _ ?_;first | with_reducible rfl | (simp;done)) | (with_reducible apply IS.below;rotate_left 1;with_reducible assumption) | (with_reducible refine IS.below ?_ (below_al _ _)) | (with_reducible refine is_drew ?_)));done));rintro _ w3 ⟨rfl,hb⟩)
   | (go_at_call 246;(with_reducible refine (HT.out _).mono ?_);rintro _ w3 ⟨rfl,hb⟩))
  all_goals
   obtain⟨_,_,c32,hB⟩:=(by assumption:_∧_∧_∧Hid _)
   go_wp2_with fail
   go_meet
   exact⟨rfl,rfl,c32,hB.out⟩
 case rest =>
  obtain⟨rfl,rfl,c32,B⟩:=hcut
  clear W0 HN1 HN2 HT l1 l2 l3
  go_wp2_with fail
  go_loopw [5,6] (fun s i wr=>∃ (k:Nat) (t:ByteArray),k<=g2.length∧i=.int .i64 k∧s=.string t∧Hid (Ds.bl t=(Wi.enc e.lev.toNat++((Wi.enc e.owner.size++Ds.bl e.owner)++Wi.enc g2.length))++grs (g2.take k))∧t.size<=2000+2000*k∧wr.cell? ⟨w.heap.size,32,none⟩=some (.slice a g2.length c)∧Below w.heap.size w wr) (fun _ i _=>g2.length - (intOf i).toNat)
  case atStart=>exact⟨0,_,Nat.zero_le _,rfl,rfl,Lib.hid (by rw[Ds.bl_append,Ds.bl_append,<-HA.out,List.append_assoc];simp [grs]),by rw[ByteArray.size_append,ByteArray.size_append];omega,c32,B⟩
  case round =>
   clear HA z1 z2 z3 c32 B
   obtain⟨k,t,hk,rfl,rfl,HTT,hz2,c32,B⟩:=hrel
   by_cases hlt:k<g2.length
   · obtain⟨b,o,rfl,pg⟩:=GS.at (HG.out.below B) (by omega)
     obtain⟨p0,p1,p2⟩:=pg k hlt
     obtain⟨gk1,gk2⟩:=HP.out.ng _ (List.getElem_mem hlt)
     have i1:(0:Int)<=(k:Int):=by omega
     have i2:(k:Int)<(g2.length:Int):=by omega
     have HE:Hid (grs (g2.take (k+1))=grs (g2.take k)++((Wi.enc g2[k].1.size++Ds.bl g2[k].1)++([tb g2[k].2.1]++Wi.enc g2[k].2.2.toNat))):=Lib.hid (by
      rw[List.take_succ_eq_append_getElem hlt,grs_append];simp [grs])
     clear pg
     generalize g2[k]=x at p0 p1 p2 gk1 gk2 HE
     obtain⟨xw,xg,xl⟩:=x
     simp only at p0 p1 p2 gk1 gk2 HE
     have HN1:=Lib.hid (fun W v (h:IS W v [xl])=>rnumbers v [xl] W h (Nat.le_of_ble_eq_true rfl) (nums1 gk2))
     have HT:=Lib.hid (fun W=>rtext xw W (by omega))
     have HB:=Lib.hid (fun W=>rbool xg W)
     have z1:(encB xw.size++xw).size<=1010:=by rw[ByteArray.size_append];have:=encB_size xw.size (by omega);omega
     have z3:=encsB_size [xl] (nums1 gk2)
     simp only[List.length_cons,List.length_nil] at z3
     have z2:(⟨#[tb xg]⟩:ByteArray).size=1:=rfl
     generalize hA1:encB xw.size++xw=A1 at HT z1
     generalize hA2:(⟨#[tb xg]⟩:ByteArray)=A2 at HB z2
     generalize hA3:encsB [xl]=A3 at HN1 z3
     have HA:Hid (Ds.bl A1++(Ds.bl A2++Ds.bl A3)=(Wi.enc xw.size++Ds.bl xw)++([tb xg]++Wi.enc xl.toNat)):=Lib.hid (by
      rw[<-hA1,<-hA2,<-hA3,Ds.bl_append,encB_bl,encsB_bl];simp [encs,Ds.bl])
     clear hA1 hA2 hA3
     have l1:¬ 9223372036854775807<t.size+A1.size:=by omega
     have l2:¬ 9223372036854775807<t.size+A1.size+A2.size:=by omega
     have l3:¬ 9223372036854775807<(t++A1).size+A2.size:=by rw[ByteArray.size_append];omega
     have l4:¬ 9223372036854775807<t.size+A1.size+A2.size+A3.size:=by omega
     have l5:¬ 9223372036854775807<((t++A1)++A2).size+A3.size:=by rw[ByteArray.size_append,ByteArray.size_append];omega
     have HZ:Hid ((((t++A1)++A2)++A3).size<=2000+2000*(k+1)):=Lib.hid (by rw[ByteArray.size_append,ByteArray.size_append,ByteArray.size_append];omega)
     clear z1 z2 z3 gk1 gk2 hz2
     go_upto_region 16 with fail
     go_region_held3 (fun w'=>w'.cell? ⟨w.heap.size,32,none⟩=some (.slice (some ⟨b,o,none⟩) g2.length c)∧w'.cell? ⟨b,o+k*3,none⟩=some (.string xw)∧w'.cell? ⟨b,o+k*3+1,none⟩=some (.bool xg)∧w'.cell? ⟨b,o+k*3+2,none⟩=some (.int .i64 xl)∧Hid (Below w.heap.size w w')) (first | assumption | exact⟨c32,p0,p1,p2,Lib.hid B.drew⟩ | exact keepM hb (by assumption) | exact keepM (below_al _ _) (by assumption)) (first
      | (go_at_call 257;(refine (HN1.out _ _ ?_).mono ?_);(focus ((repeat (first | (with_reducible refine is_oneA _ _ _ _ ?_;first | with_reducible rfl | (simp;done)) | (with_reducible refine is_oneD _ _ _ _ ?_;first | with_reducible rfl | (simp;done)) | (with_reducible apply IS.below;rotate_left 1;with_reducible assumption) | (with_reducible refine IS.below ?_ (below_al _ _)) | (with_reducible refine is_drew ?_)));done));rintro _ w3 ⟨rfl,hb⟩)
      | (go_at_call 246;(with_reducible refine (HT.out _).mono ?_);rintro _ w3 ⟨rfl,hb⟩)
      | (go_at_call 258;(with_reducible refine (HB.out _).mono ?_);rintro _ w3 ⟨rfl,rfl⟩))
     all_goals
      obtain⟨c32',_,_,_,hB⟩:=(by assumption:_∧_∧_∧_∧Hid _)
      go_wp2_with fail
      go_roundw
      case rel=>exact⟨k+1,_,by omega,by go_num,rfl,Lib.hid (by rw[HE.out,Ds.bl_append,Ds.bl_append,Ds.bl_append,HTT.out,<-HA.out];simp only[List.append_assoc]),HZ.out,c32',hB.out⟩
      case measure=>simp [intOf];omega
   · obtain rfl:k=g2.length:=by omega
     rw[List.take_length] at HTT
     go_wp2_with fail
     go_ret
     exact⟨t,rfl,by rw[HTT.out];unfold bodyP;simp only[List.append_assoc],B⟩
end
section
attribute [local go_sem ↓] ldEnt stEnt stEntRow
attribute [local go_sem] Held_drew isHead_mk headOf_mk cellsOfV_mk isAggV_mk row_new row_new2 row_new2' row_drew row_drewN vals_size allOne_nil allOne_cons one_int one_bool one_string one_pointer one_slice vals_0 vals_1
theorem keepK {W w1 w2:World} {g:Nat} {cs:Array Value} {p0 p1:Addr} {v0 v1:Value} (hb:Below w1.heap.size w1 w2) (h0:0<cs.size) (s:row w1 g=cs∧w1.cell? p0=some v0∧w1.cell? p1=some v1∧Hid (Below W.heap.size W w1)) :
  row w2 g=cs∧w2.cell? p0=some v0∧w2.cell? p1=some v1∧Hid (Below W.heap.size W w2):=⟨row_below hb s.1 h0,below_cell hb s.2.1,below_cell hb s.2.2.1,Lib.hid (bt s.2.2.2.out hb)⟩
theorem rencode (e:En) (al:Value) (a:Option Addr) (n c:Nat) (ok:Bool) (body:List UInt8) (w:World) (h1:one al=true)
  (hv:∀ W,Below w.heap.size w W->Calls Tryz.prog 48 #[.agg (e.vals al (.slice a n c))] W fun r w'=>r=.returned (.bool ok)∧Below W.heap.size W w')
  (hb:ok=true->body.length<=100000∧(Ek.key e.kind (Ds.bl e.name)).length<=100∧∀ W,Below w.heap.size w W->Calls Tryz.prog 195 #[.agg (e.vals al (.slice a n c))] W fun r w'=>∃ t,r=.returned (.string t)∧Ds.bl t=body∧Below W.heap.size W w') :
  Calls Tryz.prog 104 #[.agg (e.vals al (.slice a n c))] w fun r w'=>∃ t,r=.returned (.tuple #[.string t,.int .i64 (if ok then 0 else 1)])∧Ds.bl t=(if ok then Ek.key e.kind (Ds.bl e.name)++body else [])∧Below w.heap.size w w':=by
 have hone:=vals_one e al (.slice a n c) h1 rfl
 cases ok
 · have HV:=Lib.hid hv
   clear hv hb
   go_enter Tryz.func104,Tryz.ntmps104
   go_wp2_with (go_at_call 48;(with_reducible refine (HV.out _ (by exact belA)).mono ?_);rintro _ w2 ⟨rfl,hb⟩;have B:=below1 hb;clear hb)
   go_ret2
   exact⟨_,rfl,rfl,B⟩
 · obtain⟨hl,hkl,hbd⟩:=hb rfl
   have hk:=fun W=>rkey e.kind e.name W
   have HK:=Lib.hid hk
   have HV:=Lib.hid hv
   have HB:=Lib.hid hbd
   have HL:=Lib.hid hl
   have HKL:=Lib.hid hkl
   clear hv hk hbd hb hl hkl
   have R0:=row_new w (e.vals al (.slice a n c)) 28 (0,0)
   go_enter Tryz.func104,Tryz.ntmps104
   go_upto_region 3 with (go_at_call 48;(with_reducible refine (HV.out _ (by exact belA)).mono ?_);rintro _ w2 ⟨rfl,hb⟩;have B:=below1 hb;have R:=row_below hb R0 (by rw[vals_size];decide);clear hb)
   go_region_held3 (fun w'=>row w' w.heap.size=e.vals al (.slice a n c)∧w'.cell? ⟨w.heap.size,0,none⟩=some (.int .i64 e.kind)∧w'.cell? ⟨w.heap.size,1,none⟩=some (.string e.name)∧Hid (Below w.heap.size w w')) (first | assumption | exact⟨R,cell_row R 0 _ (vals_0 _ _ _),cell_row R 1 _ (vals_1 _ _ _),Lib.hid B.drew⟩ | exact keepK hb (by rw[vals_size];decide) (by assumption)) (first
    | (go_at_call 75;(with_reducible refine (HK.out _).mono ?_);rintro _ w3 ⟨t1,rfl,ht1,rfl⟩;have z1:t1.size<=100:=(by rw[<-Ds.bl_length,ht1];exact HKL.out))
    | (go_at_call 195;(refine (HB.out _ (by assumption:row _ _=_∧_∧_∧Hid (Below _ _ _)).2.2.2.out).mono ?_);rintro _ w4 ⟨t2,rfl,ht2,hb⟩;have z2:t2.size<=100000:=(by rw[<-Ds.bl_length,ht2];exact HL.out);have l1:¬ 9223372036854775807<t1.size+t2.size:=(by omega)))
   all_goals
    obtain⟨_,_,_,hB⟩:=(by assumption:row _ _=_∧_∧_∧Hid _)
    go_wp2_with fail
    go_ret2
    exact⟨_,rfl,by rw[Ds.bl_append,ht1,ht2],hB.out⟩
end
end Go.Proofs.YtnojclchnhmggaaGreatDoor
