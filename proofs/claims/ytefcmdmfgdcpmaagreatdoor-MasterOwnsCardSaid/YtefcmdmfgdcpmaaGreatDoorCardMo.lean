/- Catalogs. -/
import Derived.Test.YtefcmdmfgdcpmaaGreatDoorLm
import Derived.Test.YtefcmdmfgdcpmaaGreatDoorJMasterOwns
set_option maxRecDepth 8000
set_option maxHeartbeats 16000000
namespace Go.Proofs.YtefcmdmfgdcpmaaGreatDoor
section
open Go.RowKit
set_option linter.unusedSimpArgs false
attribute [local go_sem ↓] zaV zaW zaz za1
attribute [local go_sem] zav zap zal zaI zaJ zae zaq zai zaw zao zas zan zaa zaj zaf zaA zax zak zag zar zaG zaC zaE
structure MoS (wB W:World) (RX BX:Nat) (y:Fu) (al gr:Value) (ci:Int):Prop where
 b:Below wB.heap.size wB W
 rx:W.cell? ⟨RX,0,none⟩=some (.int .i64 ci)
 ry:row W BX=y.1.vals al gr
 i:IS W al y.2.1
 g:GS W gr y.2.2
 lb:BX<W.heap.size
theorem MoS.below{wB W W':World}{RX BX:Nat}{y:Fu}{al gr:Value}{ci:Int}(h:MoS wB W RX BX y al gr ci)(hb:Below W.heap.size W W'):MoS wB W' RX BX y al gr ci :=
 ⟨bt h.b hb,(hb.cell (p:=⟨RX,0,none⟩) (zaR h.rx)).trans h.rx,zaB hb h.ry (by rw[zaa];decide),h.i.below hb,h.g.below hb,Nat.lt_of_lt_of_le h.lb hb.size⟩
theorem zmp(a0:Option Addr)(n0 c0:Nat)(F:Nat->Oz)(w:World)(hm:MaxL w)(hT:Tab w)(hL:OS w a0 n0 F)(h:¬ (n0<=16∧∀ k,k<n0->few6X (F k))) :
  Calls Tryz.prog 3 #[.slice a0 n0 c0] w fun r w'=>r=.returned (.bool true)∧Below w.heap.size w w':=by
 have HAW:=lh (fun W (b:Below w.heap.size w W)=>aw36 W (hm.below b) (hT.below b));have HF:=lh (fun W (b:Below w.heap.size w W)=>zdp a0 n0 c0 F W (hL.below b));have HN:=lh h;clear hm hT hL h;go_enter Tryz.func3,Tryz.ntmps3
 go_wp2_with (first
  | (go_at_call 7;(with_reducible refine (HAW.out _ (Below.refl _ _)).mono ?_);rintro _ w1 ⟨rfl,hb⟩;have B1:=lh hb;clear hb)
  | (go_at_call 8;(refine (HF.out _ B1.out).mono ?_);rintro _ w2 ⟨bb,rfl,hf,hb⟩;have B2:=lh (bt B1.out hb);have HFF:=lh hf;clear hb hf;cases bb;rotate_left 1;exact absurd (HFF.out rfl) HN.out))
 go_ret
 exact⟨rfl,B2.out⟩
theorem zkI(a0:Option Addr)(n0 c0:Nat)(F:Nat->Oz)(Z:Nat->Zo)(w:World)(hm:MaxL w)(hT:Tab w)(hL:OS w a0 n0 F)(hO:OL w a0 n0 Z)(hn:n0<=16) :
  Calls Tryz.prog 3 #[.slice a0 n0 c0] w fun r w'=>r=.returned (.bool true)∧Below w.heap.size w w':=by
 have HAW:=lh (fun W (b:Below w.heap.size w W)=>aw36 W (hm.below b) (hT.below b));have HM:=lh (fun W (b:Below w.heap.size w W)=>And.intro (hm.below b) (hT.below b));have HF:=lh (fun W (b:Below w.heap.size w W)=>zdp a0 n0 c0 F W (hL.below b));have HRU:=lh (fun W (b:Below w.heap.size w W)=>run36b a0 n0 c0 Z W (by omega) (hm.below b) (hT.below b) (hO.below b));have hinv:=zha Z n0;have hlen:=zdi Z n0;obtain⟨hdd,hdk⟩:=zdM Z n0;generalize zcW Z n0=D at HRU hinv hlen hdd hdk;have HCT:=lh (fun sv W (hm:MaxL W) (hT:Tab W) (hr:RwS W sv D) (ho:∀ b,sv.ownBlock=some b->b<W.heap.size)=>zra sv D W hm hT hr ho hinv (by omega) (fun y hy=>Nat.le_trans (hdk y hy) (by decide)));have HIN:=lh hinv;have hrng:=zrO hinv;have hids:∀ (j:Int) (y:Fu),InD D j y->j∈zfS (zga D):=fun j y hy=>(ze3 (zga D) j).2 (hinv.ids hy)
 have hil:(zfS (zga D)).length<=1+D.length:=by
  refine Nat.le_trans (zjM _) ?_
  unfold zga;have:=znn 1 67 D;simp only[List.length_append,List.length_singleton,List.length_map]
  omega
 generalize zfS (zga D)=ids at HCT hrng hids hil;have HRG:=lh hrng;have HID:=lh hids;have hmm:=@run_makeMap Tryz.prog;clear hm hT hL hO hinv hrng hids hdd hdk;go_enter Tryz.func3,Tryz.ntmps3
 go_wp2_with (first
  | (go_at_call 7;(with_reducible refine (HAW.out _ (Below.refl _ _)).mono ?_);rintro _ w1 ⟨rfl,hb⟩;have B1:=lh hb;clear hb)
  | (go_at_call 8;(refine (HF.out _ B1.out).mono ?_);rintro _ w2 ⟨bb,rfl,-,hb⟩;have B2:=lh (bt B1.out hb);clear hb;cases bb)
  | (go_at_call 9;(refine (HRU.out _ B2.out).mono ?_);rintro _ w4 ⟨rv,rfl,hr,ho,hb⟩;obtain⟨va,vc,rfl,-⟩:=_root_.id hr;have B4:=lh (bt B2.out hb);have R4:=lh hr;have O4:=lh ho;clear hr ho hb)
  | (go_at_call 11;(with_reducible refine (sh36 _ _ _ _).mono ?_);rintro _ _ ⟨rfl,rfl⟩)
  | (go_at_call 10;(refine (HCT.out _ w4 (HM.out _ B4.out).1 (HM.out _ B4.out).2 R4.out O4.out).mono ?_);rintro _ w5 ⟨ia,ic,rfl,hi,hb,hr⟩;have B5:=lh (bt B4.out hb);have R5:=lh hr;have O5:=lh (fun q hq=>Nat.lt_of_lt_of_le (O4.out q hq) hb.size);have I5:=lh hi;clear hi hr hb))
 · go_ret
   exact⟨rfl,B2.out⟩
 have K5:=lh ((KB.made w5).congr (by funext y;simp:(fun _=>false)=fun y=>(ids.take 0).contains y) (Nat.le_refl 0));have BM:=lh (zab w5 (.map #[] 0));have zM:w5.heap.size<(w5.alloc (.map #[] 0)).heap.size:=by simp
 obtain⟨mb,hmb⟩:∃ mb,w5.heap.size=mb:=⟨_,rfl⟩;generalize hW6:w5.alloc (.map #[] 0)=w6 at K5 BM zM ⊢;rw[hmb] at K5 zM ⊢;go_loopw [39] (fun i wr=>∃ k:Nat,k<=ids.length∧i=.int .i64 k∧Hid (KB wr mb k (fun y=>(ids.take k).contains y))∧Hid (Below w5.heap.size w5 wr)∧mb<wr.heap.size) (fun i _=>ids.length - (intOf i).toNat)
 case atStart=>exact⟨0,Nat.zero_le _,rfl,K5,BM,zM⟩
 case round =>
  obtain⟨k,hk,rfl,HK,HB,hz⟩:=hrel;by_cases hlt:k<ids.length
  · obtain⟨ia',ic',ei,-,hc⟩:=I5.out.below HB.out;injection ei with ei1 ei2 ei3
    subst ei1 ei3;obtain⟨b,o,rfl,hb,hcell⟩:=hc (by omega);have p0:=hcell k hlt;have hr:=HRG.out ids[k] (List.getElem_mem hlt);have j1:(0:Int)<=(k:Int):=by omega
    have j2:(k:Int)<(ids.length:Int):=by omega
    have HW:=lh (WalkArith.wf_i64 (by omega):(Lit.int .i64 ids[k]).wf=true);clear hcell hc hr;go_wp2_with (at_mapUpdate;refine zwg _ rfl (.tmp 43) (.tmp 44) _ rfl mb k _ ids[k] rfl HK.out (by unfold maxLen;omega) rfl rfl HW.out ?_;intro w' hk' G;have HK':=lh (hk'.congr (zgu ids k hlt) (Nat.le_refl _));have HB':=lh (HB.out.trans (zaU G (by omega) HB.out.size));have hz':mb<w'.heap.size:=Nat.lt_of_lt_of_le hz G.size;clear hk' G)
    go_roundw
    case rel=>exact⟨k+1,by omega,by go_num,HK',HB',hz'⟩
    case measure=>simp [intOf];omega
  obtain rfl:k=ids.length:=by omega
  have HK:=lh (HK.out.congr (by rw[List.take_length]:(fun y=>(ids.take ids.length).contains y)=fun y=>ids.contains y) (Nat.le_refl _));have B6:=lh (bt B5.out HB.out);have R6:=lh (R5.out.below HB.out);have O6:=lh (fun q hq=>Nat.lt_of_lt_of_le (O5.out q hq) HB.out.size);clear hlt K5 BM zM hW6;obtain⟨w7,hw7⟩:∃ w7,w7=wr:=⟨_,rfl⟩;subst hw7;go_wp2_with fail
  go_loopw [48] (fun i wr=>∃ k:Nat,k<=D.length∧i=.int .i64 k∧Hid (Below w7.heap.size w7 wr)) (fun i _=>D.length - (intOf i).toNat)
  case atStart=>exact⟨0,Nat.zero_le _,rfl,lh (Below.refl _ _)⟩
  case round =>
   obtain⟨k,hk,rfl,HBR⟩:=hrel;by_cases hlt:k<D.length
   rotate_left
   · obtain rfl:k=D.length:=by omega
     go_wp2_with fail
     go_ret
     exact⟨rfl,bt B6.out HBR.out⟩
   obtain⟨va',vc',ev,-,hc⟩:=R6.out.below HBR.out;injection ev with ev1 ev2 ev3
   subst ev1 ev3;obtain⟨vb,vo,rfl,hb,hcell⟩:=hc (by omega);obtain⟨p0,p1,p2⟩:=hcell k hlt;obtain⟨y,hy,ey⟩:=HIN.out.mem (List.getElem_mem hlt);generalize D[k]=x at p0 p1 p2 hy ey;obtain⟨ci,xk,xr⟩:=x;dsimp only at p0 p1 p2 hy ey;have e2:(ci,xk,xr)=(ci,zaT y.1.kind y.1.name,zcF y):=ey;injection e2 with _ e3
   injection e3 with e4 e5
   have hdec:zc6 (Ds.bl xr)=some y:=by rw[e5];exact ztr y hy.1
   have hrg:=HIN.out.rng hy;have hct:ids.contains ci=true:=by rw[List.contains_iff_mem];exact HID.out ci y hy
   have HLK:=lh (fun W (b:Below w7.heap.size w7 W)=>(HK.out.block (b.block mb hz)).look ci (WalkArith.wf_i64 (by omega)));rw[hct] at HLK;have HLC:=lh (HIN.out.loc ci y hy);have HY:=lh hy;have hkr:=zbp hy.1;have HD:=lh (fun W (b:Below w.heap.size w W)=>zdn xr y W (HM.out W b).1 (HM.out W b).2 hdec);have j1:(0:Int)<=(k:Int):=by omega
   have j2:(k:Int)<(D.length:Int):=by omega
   clear hcell hc ey e4 e5 hdec hy hct;by_cases hk2:y.1.kind<=2
   rotate_left
   · have h1:=HLC.out.2 (by omega);have t5:(ci != 1)=false:=by rw[h1];rfl
     have t34:(y.1.kind==3)=true∨(y.1.kind==3)=false∧(y.1.kind==4)=true:=by
      rcases (by omega:y.1.kind=3∨y.1.kind=4) with q|q <;> rw[q] <;> simp
     clear h1 hkr hk2;rcases t34 with t3|⟨t3,t4⟩
     all_goals
      go_wp2_with (go_at_call 12;(refine (HD.out _ (bt (bt B6.out HBR.out) (zab wr _))).mono ?_);rintro _ w8 ⟨a1,c1,a2,c2,rfl,hI,hGs,hb8,-,-⟩;have hone:=zau y.1 (.slice a1 y.2.1.length c1) (.slice a2 y.2.2.length c2) rfl rfl;have bA:=zab w8 (.cells (y.1.vals (.slice a1 y.2.1.length c1) (.slice a2 y.2.2.length c2)) 40);have B9:=lh (bt (bt (zab wr _) hb8) bA);have zr:wr.heap.size<w8.heap.size:=(by have:=hb8.size;simp at this;omega);have p08:=(bA.cell (p:=⟨wr.heap.size,0,none⟩) zr).trans ((hb8.cell (p:=⟨wr.heap.size,0,none⟩) (by simp)).trans (show (wr.alloc (.cells #[.int .i64 ci,.string xk,.string xr] 35)).cell? ⟨wr.heap.size,0,none⟩=some (.int .i64 ci) by simp [go_sem]));have R9:=zai w8 (y.1.vals (.slice a1 y.2.1.length c1) (.slice a2 y.2.2.length c2)) 40 (0,0);have N0:=zah R9 0 _ (zaC _ _ _);have lk9:=HLK.out _ (bt HBR.out B9.out);clear hI hGs hb8 bA R9)
      go_roundw
      case rel=>exact⟨k+1,by omega,by go_num,lh (bt HBR.out B9.out)⟩
      case measure=>simp [intOf];omega
   have HWN:=lh (HLC.out.1 hk2);obtain⟨z,hzi,hf1,hf2,hf3⟩:=HIN.out.mfind HY.out hk2;have t3:(y.1.kind==3)=false:=by rw[beq_eq_false_iff_ne];omega
   have t4:(y.1.kind==4)=false:=by rw[beq_eq_false_iff_ne];omega
   have t6:(ci != ci)=false:=by simp
   have HF1:=lh hf1;have HF2:=lh hf2;have HF3:=lh hf3;clear hzi hf1 hf2 hf3;go_upto_region 24 with (go_at_call 12;(refine (HD.out _ (bt (bt B6.out HBR.out) (zab wr _))).mono ?_);rintro _ w8 ⟨a1,c1,a2,c2,rfl,hI,hGs,hb8,-,-⟩;have hone:=zau y.1 (.slice a1 y.2.1.length c1) (.slice a2 y.2.2.length c2) rfl rfl;have bA:=zab w8 (.cells (y.1.vals (.slice a1 y.2.1.length c1) (.slice a2 y.2.2.length c2)) 40);have B9:=lh (bt (bt (zab wr _) hb8) bA);have zr:wr.heap.size<w8.heap.size:=(by have:=hb8.size;simp at this;omega);have p08:=(bA.cell (p:=⟨wr.heap.size,0,none⟩) zr).trans ((hb8.cell (p:=⟨wr.heap.size,0,none⟩) (by simp)).trans (show (wr.alloc (.cells #[.int .i64 ci,.string xk,.string xr] 35)).cell? ⟨wr.heap.size,0,none⟩=some (.int .i64 ci) by simp [go_sem]));have R9:=zai w8 (y.1.vals (.slice a1 y.2.1.length c1) (.slice a2 y.2.2.length c2)) 40 (0,0);have N0:=zah R9 0 _ (zaC _ _ _);have lk9:=HLK.out _ (bt HBR.out B9.out);have S9:=lh (show MoS w7 _ wr.heap.size w8.heap.size y _ _ ci from ⟨bt HBR.out B9.out,p08,R9,hI.below bA,hGs.below bA,(by simp)⟩);clear hI hGs hb8 bA)
   obtain⟨BX,hBX⟩:∃ q,w8.heap.size=q:=⟨_,rfl⟩;obtain⟨RX,hRX⟩:∃ q,wr.heap.size=q:=⟨_,rfl⟩;generalize w8.alloc (.cells (y.1.vals (.slice a1 y.2.1.length c1) (.slice a2 y.2.2.length c2)) 40)=wS at S9 ⊢;rw[hBX,hRX] at S9 ⊢;clear hBX hRX N0 p08 lk9 R9 zr HLK B9 HD p0 p1 p2 hb;have C1:=zah S9.out.ry 1 _ (zaE _ _ _);have HMX:=lh (HM.out _ (bt B6.out S9.out.b)).1;have HTX:=lh (HM.out _ (bt B6.out S9.out.b)).2;have HRR:=lh (R6.out.below S9.out.b);have HRQ:=lh (fun q (hq:(Value.slice (some ⟨vb,vo,none⟩) D.length vc).ownBlock=some q)=>Nat.lt_of_lt_of_le (O6.out q hq) S9.out.b.size);have KS:∀ {w':World},Below wS.heap.size wS w'->w'.cell? ⟨BX,1,none⟩=some (.string y.1.name):=fun b=>(b.cell (p:=⟨BX,1,none⟩) S9.out.lb).trans C1
   refine wp_region_held_drew (S:=(fun w'=>w'.cell? ⟨BX,1,none⟩=some (.string y.1.name))) (by kernel_rfl) C1 (fun hHeld=>?_)
   (refine rgy (i:=0) (some 79) ?_;(try simp only[Act.put,pz]))
   (refine rgy (i:=3) (some 82) ?_;(try simp only[Act.put,pz]))
   (refine rgy (i:=4) (some 83) ?_;(try simp only[Act.put,pz]))
   refine rgb (i:=1) (by kernel_rfl) rfl (fun K hK=>?_)
   go_simp
   go_at_call 11
   refine (sh36 _ _ _ _).mono ?_
   rintro _ _ ⟨rfl,rfl⟩;have bdA:Below wS.heap.size wS wS.drew:=(Below.refl _ _).drew;have bS:=bdA.alloc bdA.size (.cells #[.slice (some ⟨vb,vo,none⟩) D.length vc,.int .i64 0,.int .i64 0,.int .i64 0] 68);have hS:=zc0 (.slice (some ⟨vb,vo,none⟩) D.length vc) D wS.drew wS.heap.size rfl (HRR.out.below bdA) HRQ.out;refine hK.out _ _ (KS bS) (fun hHeld=>?_)
   (clear hK K;(try simp only[Act.put,pz]))
   (refine rgy (i:=2) (some 81) ?_;(try simp only[Act.put,pz]))
   refine rgb (i:=5) (by kernel_rfl) rfl (fun K hK=>?_)
   go_simp
   go_at_call 13
   refine (zoB wS.heap.size _ D y.1.name ci wS.drew _ (HMX.out.below bdA) (HTX.out.below bdA) hS HWN.out).mono ?_
   rintro _ w9 ⟨rfl,hb9,hg9⟩;have b9:Below wS.heap.size wS w9:=bdA.trans hb9;refine hK.out _ _ (KS b9) (fun hHeld=>?_)
   (clear hK K;(try simp only[Act.put,pz]))
   (refine rgy (i:=6) (some 78) ?_;(try simp only[Act.put,pz]))
   (refine rgy (i:=7) (some 85) ?_;(try simp only[Act.put,pz]))
   (refine rgy (i:=8) (some 86) ?_;(try simp only[Act.put,pz]))
   (refine rgy (i:=9) (some 13) ?_;(try simp only[Act.put,pz]))
   (refine rgy (i:=10) (some 12) ?_;(try simp only[Act.put,pz]))
   try simp only[Act.put,List.setIfInBounds_toArray,List.set_cons_zero,List.set_cons_succ]
   refine wpAnyH_done (by kernel_rfl) ?_ _
   have S10:=lh (S9.out.below b9);clear KS C1 HMX HTX HRR HRQ S9 hHeld hb9 hg9 b9;generalize w9=wS at S10 ⊢;go_upto_region 25 with fail
   have C1:=zah S10.out.ry 1 _ (zaE _ _ _);have HMX:=lh (HM.out _ (bt B6.out S10.out.b)).1;have HTX:=lh (HM.out _ (bt B6.out S10.out.b)).2;have HRR:=lh (R6.out.below S10.out.b);have HRQ:=lh (fun q (hq:(Value.slice (some ⟨vb,vo,none⟩) D.length vc).ownBlock=some q)=>Nat.lt_of_lt_of_le (O6.out q hq) S10.out.b.size);have KS:∀ {w':World},Below wS.heap.size wS w'->w'.cell? ⟨BX,1,none⟩=some (.string y.1.name):=fun b=>(b.cell (p:=⟨BX,1,none⟩) S10.out.lb).trans C1
   have HFN:=HF1;try go_frame
   go_cut [14,15,16] (fun t14 t15 t16 wx=>∃ q al gr,t14=.pointer (some ⟨q,0,none⟩)∧t15=.int .i64 ci∧t16=.int .i64 0∧row wx q=z.1.vals al gr∧IS wx al z.2.1∧GS wx gr z.2.2∧Below wS.heap.size wS wx)
   case first =>
    refine wp_region_held_drew (S:=(fun w'=>w'.cell? ⟨BX,1,none⟩=some (.string y.1.name))) (by kernel_rfl) C1 (fun hHeld=>?_)
    (refine rgy (i:=0) (some 88) ?_;(try simp only[Act.put,pz]))
    (refine rgy (i:=3) (some 91) ?_;(try simp only[Act.put,pz]))
    (refine rgy (i:=4) (some 92) ?_;(try simp only[Act.put,pz]))
    have bdA:Below wS.heap.size wS wS.drew:=(Below.refl _ _).drew;have HRD:=lh (HRR.out.below bdA);refine wpAnyH_ready (rs:=[1,10]) (by kernel_rfl) (by simp) ?_
    refine AllReadyH.cons (o:=_) rfl (fun K hK=>?_) (AllReadyH.cons (o:=_) rfl (fun K hK=>?_) AllReadyH.nil)
    · go_simp
      go_at_call 11
      refine (sh36 _ _ _ _).mono ?_
      rintro _ _ ⟨rfl,rfl⟩;have bS:=bdA.alloc bdA.size (.cells #[.slice (some ⟨vb,vo,none⟩) D.length vc,.int .i64 0,.int .i64 0,.int .i64 0] 68);have hS:=zc0 (.slice (some ⟨vb,vo,none⟩) D.length vc) D wS.drew wS.heap.size rfl HRD.out HRQ.out;have z1:wS.heap.size<(wS.drew.alloc (.cells #[.slice (some ⟨vb,vo,none⟩) D.length vc,.int .i64 0,.int .i64 0,.int .i64 0] 68)).heap.size:=by rw[World.size_alloc];exact Nat.lt_succ_self _
      generalize hW1:wS.drew.alloc (.cells #[.slice (some ⟨vb,vo,none⟩) D.length vc,.int .i64 0,.int .i64 0,.int .i64 0] 68)=W1 at bS hS z1 ⊢;refine hK.out _ _ (KS bS) (fun hHeld=>?_)
      (clear hK K;(try simp only[Act.put,pz]))
      (refine rgy (i:=2) (some 90) ?_;(try simp only[Act.put,pz]))
      refine wpAnyH_ready (rs:=[5,10]) (by kernel_rfl) (by simp) ?_
      refine AllReadyH.cons (o:=_) rfl (fun K hK=>?_) (AllReadyH.cons (o:=_) rfl (fun K hK=>?_) AllReadyH.nil)
      · go_simp
        go_at_call 14
        refine (zex wS.heap.size _ D y.1.name z ci wS.drew W1 (HMX.out.below bdA) (HTX.out.below bdA) hS HFN.out).mono ?_
        rintro _ w9 ⟨al,gr,rfl,hI9,hG9,o1,o2,hb9,hg9⟩;have hone9:=zau z.1 al gr (zaP hI9) (zaO hG9);have b9:Below wS.heap.size wS w9:=bdA.trans hb9;refine hK.out _ _ (KS b9) (fun hHeld=>?_)
        (clear hK K;(try simp only[Act.put,pz]))
        (refine rgy (i:=6) (some 87) ?_;(try simp only[Act.put,pz]))
        (refine rgy (i:=7) (some 94) ?_;(try simp only[Act.put,pz]))
        (refine rgy (i:=8) (some 95) ?_;(try simp only[Act.put,pz]))
        (refine rgy (i:=9) (some 96) ?_;(try simp only[Act.put,pz]))
        refine wpAnyH_ready (rs:=[10]) (by kernel_rfl) (by simp) ?_
        refine AllReadyH.cons (o:=_) rfl (fun K hK=>?_) AllReadyH.nil
        refine zgN w9 (some 14) rfl rfl rfl ?_
        refine hK.out _ _ (KS (b9.alloc b9.size _)) (fun hHeld=>?_)
        (clear hK K;(try simp only[Act.put,pz]))
        try simp only[Act.put,List.setIfInBounds_toArray,List.set_cons_zero,List.set_cons_succ]
        refine wpAnyH_ready (rs:=[11]) (by kernel_rfl) (by simp) ?_
        refine AllReadyH.cons (o:=_) rfl (fun K hK=>?_) AllReadyH.nil
        refine zgO (w9.alloc (.cells (zlit 0 ⟨#[]⟩) 40)) (x:=(.tmp 14)) (y:=(.tmp 94)) (q:=w9.heap.size) (cs:=z.1.vals al gr) rfl rfl rfl rfl rfl (Held.new w9 (zlit 0 ⟨#[]⟩) 40 33 rfl (by decide)) (zaa _ _ _) hone9 ?_
        have LF:=zoA (wD:=wS) (q:=w9.heap.size) (x:=z) (b9.alloc b9.size _) b9.size (Held.new w9 (zlit 0 ⟨#[]⟩) 40 33 rfl (by decide)) (hI9.below (zab w9 _)) (hG9.below (zab w9 _)) (fun h0 b hb=>by have:=zgK hI9 h0 b hb;omega) (fun h0 b hb=>by have:=zgI hG9 h0 b hb;omega);refine hK.out _ _ (KS LF.2.2.2) (fun hHeld=>?_)
        (clear hK K;(try simp only[Act.put,pz]))
        (refine rgy (i:=12) (some 15) ?_;(try simp only[Act.put,pz]))
        (refine rgy (i:=13) (some 16) ?_;(try simp only[Act.put,pz]))
        try simp only[Act.put,List.setIfInBounds_toArray,List.set_cons_zero,List.set_cons_succ]
        refine wpAnyH_done (by kernel_rfl) ?_ _
        obtain⟨l1,l2,l3,l4⟩:=LF;have L1:=lh l1;have L2:=lh l2;have L3:=lh l3;have L4:=lh l4;clear l1 l2 l3 l4 hHeld;go_wp2_with fail
        go_meet
        exact⟨_,_,_,rfl,rfl,rfl,L1.out,L2.out,L3.out,L4.out⟩
      · refine zgN W1 (some 14) rfl rfl rfl ?_
        have bW:Below wS.heap.size wS (W1.alloc (.cells (zlit 0 ⟨#[]⟩) 40)):=bS.alloc bS.size _;refine hK.out _ _ (KS bW) (fun hHeld=>?_)
        (clear hK K;(try simp only[Act.put,pz]))
        have H2:=Held.new W1 (zlit 0 ⟨#[]⟩) 40 33 rfl (by decide);have hS2:=hS.below (zab W1 (.cells (zlit 0 ⟨#[]⟩) 40));have z2:W1.heap.size<(W1.alloc (.cells (zlit 0 ⟨#[]⟩) 40)).heap.size:=by rw[World.size_alloc];exact Nat.lt_succ_self _
        generalize hW2:W1.alloc (.cells (zlit 0 ⟨#[]⟩) 40)=W2 at H2 hS2 z2 ⊢;refine wpAnyH_ready (rs:=[5]) (by kernel_rfl) (by simp) ?_
        refine AllReadyH.cons (o:=_) rfl (fun K hK=>?_) AllReadyH.nil
        go_simp
        go_at_call 14
        refine (zex wS.heap.size _ D y.1.name z ci wS.drew W2 (HMX.out.below bdA) (HTX.out.below bdA) hS2 HFN.out).mono ?_
        rintro _ w9 ⟨al,gr,rfl,hI9,hG9,o1,o2,hb9,hg9⟩;have hone9:=zau z.1 al gr (zaP hI9) (zaO hG9);have b9:Below wS.heap.size wS w9:=bdA.trans hb9;have H9:=zbV H2 hg9 (by omega);refine hK.out _ _ (KS b9) (fun hHeld=>?_)
        (clear hK K;(try simp only[Act.put,pz]))
        (refine rgy (i:=6) (some 87) ?_;(try simp only[Act.put,pz]))
        (refine rgy (i:=7) (some 94) ?_;(try simp only[Act.put,pz]))
        (refine rgy (i:=8) (some 95) ?_;(try simp only[Act.put,pz]))
        (refine rgy (i:=9) (some 96) ?_;(try simp only[Act.put,pz]))
        try simp only[Act.put,List.setIfInBounds_toArray,List.set_cons_zero,List.set_cons_succ]
        refine wpAnyH_ready (rs:=[11]) (by kernel_rfl) (by simp) ?_
        refine AllReadyH.cons (o:=_) rfl (fun K hK=>?_) AllReadyH.nil
        obtain⟨BQ,hBQ⟩:∃ q,W1.heap.size=q:=⟨_,rfl⟩;rw[hBQ] at H9 ⊢;refine zgO w9 (x:=(.tmp 14)) (y:=(.tmp 94)) (q:=BQ) (cs:=z.1.vals al gr) rfl rfl rfl rfl rfl H9 (zaa _ _ _) hone9 ?_
        have LF:=zoA (wD:=wS) (q:=BQ) (x:=z) b9 (by omega) H9 hI9 hG9 (fun _ b hb=>by have:=o1 b hb;omega) (fun _ b hb=>by have:=o2 b hb;omega);refine hK.out _ _ (KS LF.2.2.2) (fun hHeld=>?_)
        (clear hK K;(try simp only[Act.put,pz]))
        (refine rgy (i:=12) (some 15) ?_;(try simp only[Act.put,pz]))
        (refine rgy (i:=13) (some 16) ?_;(try simp only[Act.put,pz]))
        try simp only[Act.put,List.setIfInBounds_toArray,List.set_cons_zero,List.set_cons_succ]
        refine wpAnyH_done (by kernel_rfl) ?_ _
        obtain⟨l1,l2,l3,l4⟩:=LF;have L1:=lh l1;have L2:=lh l2;have L3:=lh l3;have L4:=lh l4;clear l1 l2 l3 l4 hHeld;go_wp2_with fail
        go_meet
        exact⟨_,_,_,rfl,rfl,rfl,L1.out,L2.out,L3.out,L4.out⟩
    · refine zgN wS.drew (some 14) rfl rfl rfl ?_
      have bS:=bdA.alloc bdA.size (.cells (zlit 0 ⟨#[]⟩) 40);have H1:=Held.new wS.drew (zlit 0 ⟨#[]⟩) 40 33 rfl (by decide);have z1:wS.heap.size<(wS.drew.alloc (.cells (zlit 0 ⟨#[]⟩) 40)).heap.size:=by rw[World.size_alloc];exact Nat.lt_succ_self _
      rw[show wS.drew.heap.size=wS.heap.size from rfl] at H1 ⊢;generalize hW1:wS.drew.alloc (.cells (zlit 0 ⟨#[]⟩) 40)=W1 at bS H1 z1 ⊢;refine hK.out _ _ (KS bS) (fun hHeld=>?_)
      (clear hK K;(try simp only[Act.put,pz]))
      refine wpAnyH_ready (rs:=[1]) (by kernel_rfl) (by simp) ?_
      refine AllReadyH.cons (o:=_) rfl (fun K hK=>?_) AllReadyH.nil
      go_simp
      go_at_call 11
      refine (sh36 _ _ _ _).mono ?_
      rintro _ _ ⟨rfl,rfl⟩;have hS:=zc0 (.slice (some ⟨vb,vo,none⟩) D.length vc) D W1 W1.heap.size rfl (HRR.out.below bS) (fun b hb=>by have:=HRQ.out b hb;omega);have bT:=zab W1 (.cells #[.slice (some ⟨vb,vo,none⟩) D.length vc,.int .i64 0,.int .i64 0,.int .i64 0] 68);have z2:W1.heap.size<(W1.alloc (.cells #[.slice (some ⟨vb,vo,none⟩) D.length vc,.int .i64 0,.int .i64 0,.int .i64 0] 68)).heap.size:=by rw[World.size_alloc];exact Nat.lt_succ_self _
      generalize hW2:W1.alloc (.cells #[.slice (some ⟨vb,vo,none⟩) D.length vc,.int .i64 0,.int .i64 0,.int .i64 0] 68)=W2 at hS bT z2 ⊢;refine hK.out _ _ (KS (bt bS bT)) (fun hHeld=>?_)
      (clear hK K;(try simp only[Act.put,pz]))
      (refine rgy (i:=2) (some 90) ?_;(try simp only[Act.put,pz]))
      refine wpAnyH_ready (rs:=[5]) (by kernel_rfl) (by simp) ?_
      refine AllReadyH.cons (o:=_) rfl (fun K hK=>?_) AllReadyH.nil
      go_simp
      go_at_call 14
      refine (zex W1.heap.size _ D y.1.name z ci W1 W2 (HMX.out.below bS) (HTX.out.below bS) hS HFN.out).mono ?_
      rintro _ w9 ⟨al,gr,rfl,hI9,hG9,o1,o2,hb9,hg9⟩;have hone9:=zau z.1 al gr (zaP hI9) (zaO hG9);have b9:Below wS.heap.size wS w9:=bt bS hb9;have H9:=H1.below hb9;refine hK.out _ _ (KS b9) (fun hHeld=>?_)
      (clear hK K;(try simp only[Act.put,pz]))
      (refine rgy (i:=6) (some 87) ?_;(try simp only[Act.put,pz]))
      (refine rgy (i:=7) (some 94) ?_;(try simp only[Act.put,pz]))
      (refine rgy (i:=8) (some 95) ?_;(try simp only[Act.put,pz]))
      (refine rgy (i:=9) (some 96) ?_;(try simp only[Act.put,pz]))
      try simp only[Act.put,List.setIfInBounds_toArray,List.set_cons_zero,List.set_cons_succ]
      refine wpAnyH_ready (rs:=[11]) (by kernel_rfl) (by simp) ?_
      refine AllReadyH.cons (o:=_) rfl (fun K hK=>?_) AllReadyH.nil
      obtain⟨BQ,hBQ⟩:∃ q,wS.heap.size=q:=⟨_,rfl⟩;rw[hBQ] at H9 ⊢;refine zgO w9 (x:=(.tmp 14)) (y:=(.tmp 94)) (q:=BQ) (cs:=z.1.vals al gr) rfl rfl rfl rfl rfl H9 (zaa _ _ _) hone9 ?_
      have LF:=zoA (wD:=wS) (q:=BQ) (x:=z) b9 (by omega) H9 hI9 hG9 (fun _ b hb=>by have:=o1 b hb;omega) (fun _ b hb=>by have:=o2 b hb;omega);refine hK.out _ _ (KS LF.2.2.2) (fun hHeld=>?_)
      (clear hK K;(try simp only[Act.put,pz]))
      (refine rgy (i:=12) (some 15) ?_;(try simp only[Act.put,pz]))
      (refine rgy (i:=13) (some 16) ?_;(try simp only[Act.put,pz]))
      try simp only[Act.put,List.setIfInBounds_toArray,List.set_cons_zero,List.set_cons_succ]
      refine wpAnyH_done (by kernel_rfl) ?_ _
      obtain⟨l1,l2,l3,l4⟩:=LF;have L1:=lh l1;have L2:=lh l2;have L3:=lh l3;have L4:=lh l4;clear l1 l2 l3 l4 hHeld;go_wp2_with fail
      go_meet
      exact⟨_,_,_,rfl,rfl,rfl,L1.out,L2.out,L3.out,L4.out⟩
   case rest =>
    obtain⟨q1,al1,gr1,rfl,rfl,rfl,hq1,hI1,hG1,hB1⟩:=hcut;have S11:=lh (S10.out.below hB1);have R1:=hq1;have hone1:=zau z.1 al1 gr1 (zaP hI1) (zaO hG1);have I1:=lh hI1;have G1:=lh hG1;have p11:=S11.out.rx;have N0:=zah S11.out.ry 0 _ (zaC _ _ _);clear hq1 hI1 hG1 hB1 KS C1 HMX HTX HRR HRQ HFN S10;have b11:=S11.out.b;have E11:=S11.out.ry;have J11:=lh S11.out.i;have L11:=lh S11.out.g;by_cases k2:y.1.kind=2
    rotate_left
    · have t2:(y.1.kind==2)=false:=beq_eq_false_iff_ne.2 k2;obtain rfl:=HF3.out k2;go_wp2_with (go_at_call 15;(refine (zni _ _ _ _ _ _ J11.out L11.out I1.out G1.out).mono ?_);rintro _ w12 ⟨rfl,hb⟩;have B12:=lh (bt b11 hb);clear hb)
      go_roundw
      case rel=>exact⟨k+1,by omega,by go_num,lh B12.out⟩
      case measure=>simp [intOf];omega
    have t2:(y.1.kind==2)=true:=by rw[k2];rfl
    have HFT:=lh (HF2.out k2);go_upto_region 29 with fail
    have C29:=zah S11.out.ry 29 _ (zbb _ _ _);have HMX:=lh (HM.out _ (bt B6.out S11.out.b)).1;have HTX:=lh (HM.out _ (bt B6.out S11.out.b)).2;have HRR:=lh (R6.out.below S11.out.b);have HRQ:=lh (fun q (hq:(Value.slice (some ⟨vb,vo,none⟩) D.length vc).ownBlock=some q)=>Nat.lt_of_lt_of_le (O6.out q hq) S11.out.b.size);have KS:∀ {w':World},Below wc.heap.size wc w'->w'.cell? ⟨BX,29,none⟩=some (.string y.1.target):=fun b=>(b.cell (p:=⟨BX,29,none⟩) S11.out.lb).trans C29
    have HFN:=HFT;try go_frame
    go_cut [17,18,19] (fun t17 t18 t19 wx=>∃ q al gr,t17=.pointer (some ⟨q,0,none⟩)∧t18=.int .i64 ci∧t19=.int .i64 0∧row wx q=z.1.vals al gr∧IS wx al z.2.1∧GS wx gr z.2.2∧Below wc.heap.size wc wx)
    case first =>
     refine wp_region_held_drew (S:=(fun w'=>w'.cell? ⟨BX,29,none⟩=some (.string y.1.target))) (by kernel_rfl) C29 (fun hHeld=>?_)
     (refine rgy (i:=0) (some 118) ?_;(try simp only[Act.put,pz]))
     (refine rgy (i:=3) (some 121) ?_;(try simp only[Act.put,pz]))
     (refine rgy (i:=4) (some 122) ?_;(try simp only[Act.put,pz]))
     have bdA:Below wc.heap.size wc wc.drew:=(Below.refl _ _).drew;have HRD:=lh (HRR.out.below bdA);refine wpAnyH_ready (rs:=[1,10]) (by kernel_rfl) (by simp) ?_
     refine AllReadyH.cons (o:=_) rfl (fun K hK=>?_) (AllReadyH.cons (o:=_) rfl (fun K hK=>?_) AllReadyH.nil)
     · go_simp
       go_at_call 11
       refine (sh36 _ _ _ _).mono ?_
       rintro _ _ ⟨rfl,rfl⟩;have bS:=bdA.alloc bdA.size (.cells #[.slice (some ⟨vb,vo,none⟩) D.length vc,.int .i64 0,.int .i64 0,.int .i64 0] 68);have hS:=zc0 (.slice (some ⟨vb,vo,none⟩) D.length vc) D wc.drew wc.heap.size rfl HRD.out HRQ.out;have z1:wc.heap.size<(wc.drew.alloc (.cells #[.slice (some ⟨vb,vo,none⟩) D.length vc,.int .i64 0,.int .i64 0,.int .i64 0] 68)).heap.size:=by rw[World.size_alloc];exact Nat.lt_succ_self _
       generalize hW1:wc.drew.alloc (.cells #[.slice (some ⟨vb,vo,none⟩) D.length vc,.int .i64 0,.int .i64 0,.int .i64 0] 68)=W1 at bS hS z1 ⊢;refine hK.out _ _ (KS bS) (fun hHeld=>?_)
       (clear hK K;(try simp only[Act.put,pz]))
       (refine rgy (i:=2) (some 120) ?_;(try simp only[Act.put,pz]))
       refine wpAnyH_ready (rs:=[5,10]) (by kernel_rfl) (by simp) ?_
       refine AllReadyH.cons (o:=_) rfl (fun K hK=>?_) (AllReadyH.cons (o:=_) rfl (fun K hK=>?_) AllReadyH.nil)
       · go_simp
         go_at_call 14
         refine (zex wc.heap.size _ D y.1.target z ci wc.drew W1 (HMX.out.below bdA) (HTX.out.below bdA) hS HFN.out).mono ?_
         rintro _ w9 ⟨al,gr,rfl,hI9,hG9,o1,o2,hb9,hg9⟩;have hone9:=zau z.1 al gr (zaP hI9) (zaO hG9);have b9:Below wc.heap.size wc w9:=bdA.trans hb9;refine hK.out _ _ (KS b9) (fun hHeld=>?_)
         (clear hK K;(try simp only[Act.put,pz]))
         (refine rgy (i:=6) (some 117) ?_;(try simp only[Act.put,pz]))
         (refine rgy (i:=7) (some 124) ?_;(try simp only[Act.put,pz]))
         (refine rgy (i:=8) (some 125) ?_;(try simp only[Act.put,pz]))
         (refine rgy (i:=9) (some 126) ?_;(try simp only[Act.put,pz]))
         refine wpAnyH_ready (rs:=[10]) (by kernel_rfl) (by simp) ?_
         refine AllReadyH.cons (o:=_) rfl (fun K hK=>?_) AllReadyH.nil
         refine zgN w9 (some 17) rfl rfl rfl ?_
         refine hK.out _ _ (KS (b9.alloc b9.size _)) (fun hHeld=>?_)
         (clear hK K;(try simp only[Act.put,pz]))
         try simp only[Act.put,List.setIfInBounds_toArray,List.set_cons_zero,List.set_cons_succ]
         refine wpAnyH_ready (rs:=[11]) (by kernel_rfl) (by simp) ?_
         refine AllReadyH.cons (o:=_) rfl (fun K hK=>?_) AllReadyH.nil
         refine zgO (w9.alloc (.cells (zlit 0 ⟨#[]⟩) 40)) (x:=(.tmp 17)) (y:=(.tmp 124)) (q:=w9.heap.size) (cs:=z.1.vals al gr) rfl rfl rfl rfl rfl (Held.new w9 (zlit 0 ⟨#[]⟩) 40 33 rfl (by decide)) (zaa _ _ _) hone9 ?_
         have LF:=zoA (wD:=wc) (q:=w9.heap.size) (x:=z) (b9.alloc b9.size _) b9.size (Held.new w9 (zlit 0 ⟨#[]⟩) 40 33 rfl (by decide)) (hI9.below (zab w9 _)) (hG9.below (zab w9 _)) (fun h0 b hb=>by have:=zgK hI9 h0 b hb;omega) (fun h0 b hb=>by have:=zgI hG9 h0 b hb;omega);refine hK.out _ _ (KS LF.2.2.2) (fun hHeld=>?_)
         (clear hK K;(try simp only[Act.put,pz]))
         (refine rgy (i:=12) (some 18) ?_;(try simp only[Act.put,pz]))
         (refine rgy (i:=13) (some 19) ?_;(try simp only[Act.put,pz]))
         try simp only[Act.put,List.setIfInBounds_toArray,List.set_cons_zero,List.set_cons_succ]
         refine wpAnyH_done (by kernel_rfl) ?_ _
         obtain⟨l1,l2,l3,l4⟩:=LF;have L1:=lh l1;have L2:=lh l2;have L3:=lh l3;have L4:=lh l4;clear l1 l2 l3 l4 hHeld;go_wp2_with fail
         go_meet
         exact⟨_,_,_,rfl,rfl,rfl,L1.out,L2.out,L3.out,L4.out⟩
       · refine zgN W1 (some 17) rfl rfl rfl ?_
         have bW:Below wc.heap.size wc (W1.alloc (.cells (zlit 0 ⟨#[]⟩) 40)):=bS.alloc bS.size _;refine hK.out _ _ (KS bW) (fun hHeld=>?_)
         (clear hK K;(try simp only[Act.put,pz]))
         have H2:=Held.new W1 (zlit 0 ⟨#[]⟩) 40 33 rfl (by decide);have hS2:=hS.below (zab W1 (.cells (zlit 0 ⟨#[]⟩) 40));have z2:W1.heap.size<(W1.alloc (.cells (zlit 0 ⟨#[]⟩) 40)).heap.size:=by rw[World.size_alloc];exact Nat.lt_succ_self _
         generalize hW2:W1.alloc (.cells (zlit 0 ⟨#[]⟩) 40)=W2 at H2 hS2 z2 ⊢;refine wpAnyH_ready (rs:=[5]) (by kernel_rfl) (by simp) ?_
         refine AllReadyH.cons (o:=_) rfl (fun K hK=>?_) AllReadyH.nil
         go_simp
         go_at_call 14
         refine (zex wc.heap.size _ D y.1.target z ci wc.drew W2 (HMX.out.below bdA) (HTX.out.below bdA) hS2 HFN.out).mono ?_
         rintro _ w9 ⟨al,gr,rfl,hI9,hG9,o1,o2,hb9,hg9⟩;have hone9:=zau z.1 al gr (zaP hI9) (zaO hG9);have b9:Below wc.heap.size wc w9:=bdA.trans hb9;have H9:=zbV H2 hg9 (by omega);refine hK.out _ _ (KS b9) (fun hHeld=>?_)
         (clear hK K;(try simp only[Act.put,pz]))
         (refine rgy (i:=6) (some 117) ?_;(try simp only[Act.put,pz]))
         (refine rgy (i:=7) (some 124) ?_;(try simp only[Act.put,pz]))
         (refine rgy (i:=8) (some 125) ?_;(try simp only[Act.put,pz]))
         (refine rgy (i:=9) (some 126) ?_;(try simp only[Act.put,pz]))
         try simp only[Act.put,List.setIfInBounds_toArray,List.set_cons_zero,List.set_cons_succ]
         refine wpAnyH_ready (rs:=[11]) (by kernel_rfl) (by simp) ?_
         refine AllReadyH.cons (o:=_) rfl (fun K hK=>?_) AllReadyH.nil
         obtain⟨BQ,hBQ⟩:∃ q,W1.heap.size=q:=⟨_,rfl⟩;rw[hBQ] at H9 ⊢;refine zgO w9 (x:=(.tmp 17)) (y:=(.tmp 124)) (q:=BQ) (cs:=z.1.vals al gr) rfl rfl rfl rfl rfl H9 (zaa _ _ _) hone9 ?_
         have LF:=zoA (wD:=wc) (q:=BQ) (x:=z) b9 (by omega) H9 hI9 hG9 (fun _ b hb=>by have:=o1 b hb;omega) (fun _ b hb=>by have:=o2 b hb;omega);refine hK.out _ _ (KS LF.2.2.2) (fun hHeld=>?_)
         (clear hK K;(try simp only[Act.put,pz]))
         (refine rgy (i:=12) (some 18) ?_;(try simp only[Act.put,pz]))
         (refine rgy (i:=13) (some 19) ?_;(try simp only[Act.put,pz]))
         try simp only[Act.put,List.setIfInBounds_toArray,List.set_cons_zero,List.set_cons_succ]
         refine wpAnyH_done (by kernel_rfl) ?_ _
         obtain⟨l1,l2,l3,l4⟩:=LF;have L1:=lh l1;have L2:=lh l2;have L3:=lh l3;have L4:=lh l4;clear l1 l2 l3 l4 hHeld;go_wp2_with fail
         go_meet
         exact⟨_,_,_,rfl,rfl,rfl,L1.out,L2.out,L3.out,L4.out⟩
     · refine zgN wc.drew (some 17) rfl rfl rfl ?_
       have bS:=bdA.alloc bdA.size (.cells (zlit 0 ⟨#[]⟩) 40);have H1:=Held.new wc.drew (zlit 0 ⟨#[]⟩) 40 33 rfl (by decide);have z1:wc.heap.size<(wc.drew.alloc (.cells (zlit 0 ⟨#[]⟩) 40)).heap.size:=by rw[World.size_alloc];exact Nat.lt_succ_self _
       rw[show wc.drew.heap.size=wc.heap.size from rfl] at H1 ⊢;generalize hW1:wc.drew.alloc (.cells (zlit 0 ⟨#[]⟩) 40)=W1 at bS H1 z1 ⊢;refine hK.out _ _ (KS bS) (fun hHeld=>?_)
       (clear hK K;(try simp only[Act.put,pz]))
       refine wpAnyH_ready (rs:=[1]) (by kernel_rfl) (by simp) ?_
       refine AllReadyH.cons (o:=_) rfl (fun K hK=>?_) AllReadyH.nil
       go_simp
       go_at_call 11
       refine (sh36 _ _ _ _).mono ?_
       rintro _ _ ⟨rfl,rfl⟩;have hS:=zc0 (.slice (some ⟨vb,vo,none⟩) D.length vc) D W1 W1.heap.size rfl (HRR.out.below bS) (fun b hb=>by have:=HRQ.out b hb;omega);have bT:=zab W1 (.cells #[.slice (some ⟨vb,vo,none⟩) D.length vc,.int .i64 0,.int .i64 0,.int .i64 0] 68);have z2:W1.heap.size<(W1.alloc (.cells #[.slice (some ⟨vb,vo,none⟩) D.length vc,.int .i64 0,.int .i64 0,.int .i64 0] 68)).heap.size:=by rw[World.size_alloc];exact Nat.lt_succ_self _
       generalize hW2:W1.alloc (.cells #[.slice (some ⟨vb,vo,none⟩) D.length vc,.int .i64 0,.int .i64 0,.int .i64 0] 68)=W2 at hS bT z2 ⊢;refine hK.out _ _ (KS (bt bS bT)) (fun hHeld=>?_)
       (clear hK K;(try simp only[Act.put,pz]))
       (refine rgy (i:=2) (some 120) ?_;(try simp only[Act.put,pz]))
       refine wpAnyH_ready (rs:=[5]) (by kernel_rfl) (by simp) ?_
       refine AllReadyH.cons (o:=_) rfl (fun K hK=>?_) AllReadyH.nil
       go_simp
       go_at_call 14
       refine (zex W1.heap.size _ D y.1.target z ci W1 W2 (HMX.out.below bS) (HTX.out.below bS) hS HFN.out).mono ?_
       rintro _ w9 ⟨al,gr,rfl,hI9,hG9,o1,o2,hb9,hg9⟩;have hone9:=zau z.1 al gr (zaP hI9) (zaO hG9);have b9:Below wc.heap.size wc w9:=bt bS hb9;have H9:=H1.below hb9;refine hK.out _ _ (KS b9) (fun hHeld=>?_)
       (clear hK K;(try simp only[Act.put,pz]))
       (refine rgy (i:=6) (some 117) ?_;(try simp only[Act.put,pz]))
       (refine rgy (i:=7) (some 124) ?_;(try simp only[Act.put,pz]))
       (refine rgy (i:=8) (some 125) ?_;(try simp only[Act.put,pz]))
       (refine rgy (i:=9) (some 126) ?_;(try simp only[Act.put,pz]))
       try simp only[Act.put,List.setIfInBounds_toArray,List.set_cons_zero,List.set_cons_succ]
       refine wpAnyH_ready (rs:=[11]) (by kernel_rfl) (by simp) ?_
       refine AllReadyH.cons (o:=_) rfl (fun K hK=>?_) AllReadyH.nil
       obtain⟨BQ,hBQ⟩:∃ q,wc.heap.size=q:=⟨_,rfl⟩;rw[hBQ] at H9 ⊢;refine zgO w9 (x:=(.tmp 17)) (y:=(.tmp 124)) (q:=BQ) (cs:=z.1.vals al gr) rfl rfl rfl rfl rfl H9 (zaa _ _ _) hone9 ?_
       have LF:=zoA (wD:=wc) (q:=BQ) (x:=z) b9 (by omega) H9 hI9 hG9 (fun _ b hb=>by have:=o1 b hb;omega) (fun _ b hb=>by have:=o2 b hb;omega);refine hK.out _ _ (KS LF.2.2.2) (fun hHeld=>?_)
       (clear hK K;(try simp only[Act.put,pz]))
       (refine rgy (i:=12) (some 18) ?_;(try simp only[Act.put,pz]))
       (refine rgy (i:=13) (some 19) ?_;(try simp only[Act.put,pz]))
       try simp only[Act.put,List.setIfInBounds_toArray,List.set_cons_zero,List.set_cons_succ]
       refine wpAnyH_done (by kernel_rfl) ?_ _
       obtain⟨l1,l2,l3,l4⟩:=LF;have L1:=lh l1;have L2:=lh l2;have L3:=lh l3;have L4:=lh l4;clear l1 l2 l3 l4 hHeld;go_wp2_with fail
       go_meet
       exact⟨_,_,_,rfl,rfl,rfl,L1.out,L2.out,L3.out,L4.out⟩
    case rest =>
     obtain⟨q2,al2,gr2,rfl,rfl,rfl,hq2,hI2,hG2,hB2⟩:=hcut;have S12:=lh (S11.out.below hB2);have R1:=zaB hB2 R1 (by rw[zaa];decide);have R2:=hq2;have hone2:=zau z.1 al2 gr2 (zaP hI2) (zaO hG2);have I1:=lh (I1.out.below hB2);have G1:=lh (G1.out.below hB2);have I2:=lh hI2;have G2:=lh hG2;have p12:=S12.out.rx;have N0:=zah S12.out.ry 0 _ (zaC _ _ _);have b12:=S12.out.b;clear hq2 hI2 hG2 hB2 KS C29 HMX HTX HRR HRQ HFN S11 b11 E11 J11 L11 p11;go_wp2_with (go_at_call 15;(refine (zni _ _ _ _ _ _ I2.out G2.out I1.out G1.out).mono ?_);rintro _ w12 ⟨rfl,hb⟩;have B12:=lh (bt b12 hb);clear hb)
     go_roundw
     case rel=>exact⟨k+1,by omega,by go_num,lh B12.out⟩
     case measure=>simp [intOf];omega
theorem zug(a0:Option Addr)(n0 c0:Nat)(F:Nat->Oz)(w:World)(hm:MaxL w)(hT:Tab w)(hL:OS w a0 n0 F) :
  Calls Tryz.prog 3 #[.slice a0 n0 c0] w fun r w'=>r=.returned (.bool true)∧Below w.heap.size w w':=by
 by_cases h:n0<=16∧∀ k,k<n0->few6X (F k)
 · obtain⟨Z,hO⟩:=hL.ol fun k hk=>by
    obtain⟨q1,q2,q3,q4,q5⟩:=h.2 k hk;exact⟨by omega,by omega,q1,q5⟩
   exact zkI a0 n0 c0 F Z w hm hT hL hO h.1
 · exact zmp a0 n0 c0 F w hm hT hL h
end
end Go.Proofs.YtefcmdmfgdcpmaaGreatDoor
section
namespace Go.Proofs.YtefcmdmfgdcpmaaGreatDoor.masterOwns
open Go.ChangeShapes Go.WideShapes Go.ChangeAt Go.RowKit Go.Proofs.YtefcmdmfgdcpmaaGreatDoor
open Go.ChangeMaps (open_string)
set_option maxRecDepth 100000 in
theorem contract(H:Type)(enc:TypeId × Value->H)(W:World)(base:Nat)(args:Array Value)(ds gs:List (DataW H))(before:List MemPlace)(hval:∀ (j:Nat) t v,Tryz.f3.params[j]?=some t->args[j]?=some v->Value.okWide Tryz.prog W .any base t v)(hW:DataW.Whole enc Tryz.prog Tryz.f3.params.toList Rows.masterOwnsSpec.vars false W args.toList ds gs before)(hL:laidMetH Tryz.prog Rows.masterOwnsRow.laid W)(hS:W.ShapedOpen Tryz.prog) :
  Calls Tryz.prog 3 args W fun e W'=>∃ v,e=.returned v∧Rows.masterOwnsSpec.post enc Tryz.prog Tryz.f3 false true false false W args v W':=by
 have hW':=hW;have hlt:∀ x∈before,x.block<W.heap.size:=fun x hx=>by simpa using hW'.lt x hx
 obtain⟨p,q,hA0,hV,rfl,hfz,hnd⟩:=hW;have hA:DataW.TrodAll enc Tryz.prog W 0 (fun _=>true) true Tryz.f3.params.toList args.toList ds p:=hA0;have hK:=hA;rw[Tryz.params3] at hA hval;obtain⟨v0,vs0,d0,ds0,p0,q0,hargs,rfl,rfl,h0,r0⟩:=trodAll_cons hA;obtain⟨rfl,rfl,rfl⟩:=trodAll_nil r0;obtain rfl:args=#[v0]:=by cases args;simp_all
 obtain⟨rfl,rfl⟩:=trodVars_none hV;obtain⟨a0,n0,c0,F0,rfl,o0⟩:=zgU (hval 0 22 v0 rfl rfl) h0;rw[MakeChecks.laidMetH_plain _ _ _ (by kernel_rfl)] at hL;refine (zug a0 n0 c0 F0 W (zmK hS) (znt hL) o0).mono fun e W' ⟨he,hb⟩=>?_
 subst he;exact⟨_,rfl,_,_,_,[],_,[],hW',trodAll_cons_mk (shut_bool Tryz.underlying4 _) trodAll_mk0,zeo hb (by rw[Tryz.params3];kernel_rfl) hK (fun x hx=>hlt x (by simpa using hx)),rfl,hb.frame _,fun h=>by cases h⟩
theorem laid_met(os:Os):laidMetH Tryz.prog Rows.masterOwnsRow.laid ((World.laidAll Tryz.prog os Rows.masterOwnsRow.laid).forCall (fun _ _=>0) ⟨#[],#[(.slice none 0 0:Value)],[]⟩).memory:=by
 rw[MakeChecks.laidMetH_plain _ _ _ (by kernel_rfl)];exact laidMet_laidAll _ (by kernel_rfl) (by kernel_rfl)
theorem reads(os:Os){H:Type}(enc:TypeId × Value->H):∃ places,DataW.whole enc Tryz.prog ((World.laidAll Tryz.prog os Rows.masterOwnsRow.laid).forCall (fun _ _=>0) ⟨#[],#[(.slice none 0 0:Value)],[]⟩).memory Tryz.f3.params.toList Rows.masterOwnsSpec.vars false #[(.slice none 0 0:Value)].toList 8=some ([.nil],[],places) :=
 ⟨[],by kernel_rfl⟩
set_option maxRecDepth 100000 in
theorem lifted(os:Os)(started:os.Started)(H:Type)(enc:TypeId × Value->H)(F:Stop.Interp) :
  ReturnsInHanded {} Tryz.checked os 3 .any ((OpenSpec.ofChange Rows.masterOwnsSpec).preRow enc Tryz.prog Tryz.f3 Rows.masterOwnsRow.domain false Rows.masterOwnsRow.laid) (((OpenSpec.ofChange Rows.masterOwnsSpec).at F).post enc Tryz.prog Tryz.f3 false true false false):=by
 obtain⟨places,hx⟩:=reads os enc
 refine returnsInHanded_of_row (C:=Tryz.checked) (s:=OpenSpec.ofChange Rows.masterOwnsSpec) ownk started (by kernel_rfl) Tryz.func3
  (zdO (enc:=enc) (C:=Tryz.checked) false #[(.slice none 0 0:Value)] (World.shaped_of_ZipB (by kernel_rfl) (by kernel_rfl)) (by kernel_rfl)
    (OpenSpec.preRow_of_cond 8 hx (by kernel_rfl) (fun k hk=>by cases hk) (by kernel_rfl) (laid_met os))) ?_
 intro W base args ds gs before hval hW _ _ _ hL hS _;exact contract H enc W base args ds gs before hval hW hL hS
theorem said:Rows.MasterOwnsSaid :=
 OpenClaim.holds_of_cond 3 Tryz.f3 rfl rfl rfl rfl rfl rfl rfl ⟨rfl,rfl,rfl,rfl,rfl⟩ rfl rfl rfl rfl rfl (by kernel_rfl) Tryz.func3 joined_masterOwns
  (of_decide_eq_true (by kernel_rfl)) (by unfold Func.isWrapper;first|(rw[if_pos (by decide +kernel)];kernel_rfl)|(rw[if_neg (by decide +kernel)];exact⟨rfl,rfl⟩))
  (fun os started H enc _ F=>by rw[OpenClaim.pre_eq_preRow];exact lifted os started H enc F)
theorem plain(f:FuncId)(fn:Func)(hf:Tryz.pinned.checked.prog.funcNamed Rows.masterOwnsRow.func=some f)(hfn:Tryz.pinned.checked.prog.funcs[f]?=some fn) :
  false=Tryz.pinned.checked.prog.looks []∧∀ (j:Nat) t,fn.params[j]?=some t->Tryz.pinned.checked.prog.wantsStandIn t=false:=by
 obtain rfl:f=3:=Option.some.inj ((show Tryz.prog.funcNamed Rows.masterOwnsRow.func=some 3 by kernel_rfl).symm.trans hf) |>.symm
 obtain rfl:fn=Tryz.f3:=(Option.some.inj (Tryz.func3.symm.trans hfn)).symm;refine⟨by kernel_rfl,fun j t ht=>?_⟩
 rw[Tryz.params3] at ht;have hm:=Array.mem_of_getElem? ht;have ha:(#[22]:Array TypeId).all (fun t=>!Tryz.prog.wantsStandIn t)=true:=by kernel_rfl
 have:=(Array.all_eq_true_iff_forall_mem.1 ha) t hm;exact (show Tryz.prog.wantsStandIn t=false by simpa using this)
theorem card:Rows.MasterOwnsCardSaid :=
 Claim7.holds_tied_plain_at .later [] _ _ _ _ said (fun _ h=>by cases h) (by kernel_rfl) (fun _ h=>by cases h) masterOwns_row_tie rfl ⟨rfl,rfl⟩ (by kernel_rfl) rfl plain (by kernel_rfl)
end Go.Proofs.YtefcmdmfgdcpmaaGreatDoor.masterOwns
end
