/- Catalogs. -/
import Derived.Test.YtefcmdmfgdcpmaaGreatDoorBz
import Derived.Test.YtefcmdmfgdcpmaaGreatDoorJMasterIds
set_option maxRecDepth 8000
set_option maxHeartbeats 16000000
namespace Go.Proofs.YtefcmdmfgdcpmaaGreatDoor
section
open Go.RowKit
set_option linter.unusedSimpArgs false
def ByB(D:List Rw):Prop:=D.length<=19∧(∀ x∈D,x.2.1.size<=1000)∧∀ c L,RdL D c L
theorem ziR(p:Nat)(sv:Value)(R:List Rw)(id:Int)(y:Fu)(w0 w:World)(hm:MaxL w0)(hT:Tab w0)(hS:SHs w0 w p sv R 0 0 0)(hso:∀ b,sv.ownBlock=some b->b<w0.heap.size)(hx:ByB R)(hg:(byF R 0 0 0 id).1=(y,0)) :
  Calls Tryz.prog 16 #[.iface 31 (.pointer (some ⟨p,0,none⟩)),.int .i64 id] w fun r w'=>∃ al gr,r=.returned (.tuple #[.agg (y.1.vals al gr),.int .i64 0])∧IS w' al y.2.1∧GS w' gr y.2.2∧(0<y.2.1.length->∀ b,al.ownBlock=some b->w.heap.size<=b)∧(0<y.2.2.length->∀ b,gr.ownBlock=some b->w.heap.size<=b)∧Below w0.heap.size w0 w'∧w.grownBy w' (some p):=by
 refine (zmD p sv R 0 0 0 id w0 w hm hT hS (fun b hb=>Nat.lt_of_lt_of_le (hso b hb) hS.b.size) hx.1 hx.2.1 (Int.le_refl _) (by decide) (.inr (Int.le_refl _)) hx.2.2).mono ?_
 rintro r w' ⟨al,gr,h1,h2,h3,h4,h5,h6,h7⟩;rw[hg] at h1 h2 h3 h6 h7;exact⟨al,gr,h1,h2,h3,h6,h7,h4.b,h5⟩
theorem zlm(sv:Value)(R:List Rw)(w:World)(hm:MaxL w)(hT:Tab w)(hr:RwS w sv R)(hso:∀ b,sv.ownBlock=some b->b<w.heap.size)(hx:ByB R)(hg:(byF R 0 0 0 0).1=(zF0,6)) :
  Calls Tryz.prog 16 #[.iface 31 (.pointer (some ⟨w.heap.size,0,none⟩)),.int .i64 0] (w.alloc (.cells #[sv,.int .i64 0,.int .i64 0,.int .i64 0] 68)) fun r w'=>∃ al gr,r=.returned (.tuple #[.agg (En.zero.vals al gr),.int .i64 6])∧zaM (En.zero.vals al gr).toList=true∧Below w.heap.size w w':=by
 have hS:=zb9 sv R w hr hso;refine (zmD w.heap.size sv R 0 0 0 0 w _ hm hT hS (fun b hb=>Nat.lt_of_lt_of_le (hso b hb) hS.b.size) hx.1 hx.2.1 (Int.le_refl _) (by decide) (.inr (Int.le_refl _)) hx.2.2).mono ?_
 rintro r w' ⟨al,gr,h1,h2,h3,h4,h5,-⟩;rw[hg] at h1 h2 h3;exact⟨al,gr,h1,zau _ _ _ (zaP h2) (zaO h3),h4.b⟩
attribute [local go_sem ↓] zaV zcu zaW zaz za1
attribute [local go_sem] zav zap zal zaI zaJ zae zaq zai zaw zao zas zan zaa zaj zaf zaA zax zak zag zar zaG zaC zaE
theorem zmn(a0:Option Addr)(n0 c0:Nat)(F:Nat->Oz)(w:World)(hm:MaxL w)(hT:Tab w)(hL:OS w a0 n0 F)(h:¬ (n0<=16∧∀ k,k<n0->few6X (F k))) :
  Calls Tryz.prog 4 #[.slice a0 n0 c0] w fun r w'=>r=.returned (.bool true)∧Below w.heap.size w w':=by
 have HAW:=lh (fun W (b:Below w.heap.size w W)=>aw36 W (hm.below b) (hT.below b));have HF:=lh (fun W (b:Below w.heap.size w W)=>zdp a0 n0 c0 F W (hL.below b));have HN:=lh h;clear hm hT hL h;go_enter Tryz.func4,Tryz.ntmps4
 go_wp2_with (first
  | (go_at_call 7;(with_reducible refine (HAW.out _ (Below.refl _ _)).mono ?_);rintro _ w1 ⟨rfl,hb⟩;have B1:=lh hb;clear hb)
  | (go_at_call 8;(refine (HF.out _ B1.out).mono ?_);rintro _ w2 ⟨bb,rfl,hf,hb⟩;have B2:=lh (bt B1.out hb);have HFF:=lh hf;clear hb hf;cases bb;rotate_left 1;exact absurd (HFF.out rfl) HN.out))
 go_ret
 exact⟨rfl,B2.out⟩
structure MiS (wB W:World) (BX:Nat) (x:Fu) (al gr:Value):Prop where
 b:Below wB.heap.size wB W
 ry:row W BX=x.1.vals al gr
 i:IS W al x.2.1
 g:GS W gr x.2.2
 lb:BX<W.heap.size
theorem MiS.below{wB W W':World}{BX:Nat}{x:Fu}{al gr:Value}(h:MiS wB W BX x al gr)(hb:Below W.heap.size W W'):MiS wB W' BX x al gr :=
 ⟨bt h.b hb,zaB hb h.ry (by rw[zaa];decide),h.i.below hb,h.g.below hb,Nat.lt_of_lt_of_le h.lb hb.size⟩
theorem zkG(a0:Option Addr)(n0 c0:Nat)(F:Nat->Oz)(Z:Nat->Zo)(w:World)(hm:MaxL w)(hT:Tab w)(hL:OS w a0 n0 F)(hO:OL w a0 n0 Z)(hn:n0<=16) :
  Calls Tryz.prog 4 #[.slice a0 n0 c0] w fun r w'=>r=.returned (.bool true)∧Below w.heap.size w w':=by
 have HAW:=lh (fun W (b:Below w.heap.size w W)=>aw36 W (hm.below b) (hT.below b));have HM:=lh (fun W (b:Below w.heap.size w W)=>And.intro (hm.below b) (hT.below b));have HF:=lh (fun W (b:Below w.heap.size w W)=>zdp a0 n0 c0 F W (hL.below b));have HRU:=lh (fun W (b:Below w.heap.size w W)=>run36b a0 n0 c0 Z W (by omega) (hm.below b) (hT.below b) (hO.below b));have hinv:=zha Z n0;have hlen:=zdi Z n0;obtain⟨hdd,hdk⟩:=zdM Z n0;generalize zcW Z n0=D at HRU hinv hlen hdd hdk;have HX:Hid (ByB D):=lh ⟨by omega,fun y hy=>Nat.le_trans (hdk y hy) (by decide),fun c L=>hinv.rdL c L⟩;have HIN:=lh hinv;have hmm:=@run_makeMap Tryz.prog;clear hm hT hL hO hinv hdd hdk;go_enter Tryz.func4,Tryz.ntmps4
 go_wp2_with (first
  | (go_at_call 7;(with_reducible refine (HAW.out _ (Below.refl _ _)).mono ?_);rintro _ w1 ⟨rfl,hb⟩;have B1:=lh hb;clear hb)
  | (go_at_call 8;(refine (HF.out _ B1.out).mono ?_);rintro _ w2 ⟨bb,rfl,-,hb⟩;have B2:=lh (bt B1.out hb);clear hb;cases bb)
  | (go_at_call 9;(refine (HRU.out _ B2.out).mono ?_);rintro _ w4 ⟨rv,rfl,hr,ho,hb⟩;obtain⟨va,vc,rfl,-⟩:=_root_.id hr;have B4:=lh (bt B2.out hb);have R4:=lh hr;have O4:=lh ho;clear hr ho hb))
 · go_ret
   exact⟨rfl,B2.out⟩
 have K4:=lh ((KC.made w4).congr (S':=fun z=>((zgs (zem (D.take 0)) z:Nat):Int)) (by funext z;rw[List.take_zero];rfl) (Nat.le_refl 0));have BM:=lh (zab w4 (.map #[] 0));have zM:w4.heap.size<(w4.alloc (.map #[] 0)).heap.size:=by simp
 obtain⟨mb,hmb⟩:∃ mb,w4.heap.size=mb:=⟨_,rfl⟩;generalize hW6:w4.alloc (.map #[] 0)=w6 at K4 BM zM ⊢;rw[hmb] at K4 zM ⊢;go_loopw [5,26] (fun v i wr=>∃ (k:Nat) (ts:List TE),k<=D.length∧i=.int .i64 k∧Hid (TJE TE.en 33 40 w6.heap.size wr v ts)∧Hid (ts.map (fun t=>t.1.1)=zem (D.take k))∧ts.length<=k∧Hid (KC wr mb k (fun z=>((zgs (zem (D.take k)) z:Nat):Int)))∧Hid (Below w4.heap.size w4 wr)∧Hid (∀ t∈ts,TeB w6.heap.size mb t)∧w6.heap.size<=wr.heap.size) (fun _ i _=>D.length - (intOf i).toNat)
 case atStart=>exact⟨0,[],Nat.zero_le _,rfl,lh (TJE.start _),lh (by rw[List.take_zero];rfl),Nat.le_refl _,K4,BM,lh (fun _ h=>by cases h),Nat.le_refl _⟩
 case round =>
  obtain⟨k,ts,hk,rfl,HTJ,HTS,hts,HKC,HBR,HTB,hz6⟩:=hrel;obtain⟨vA,vC,rfl⟩:=za6 HTJ.out.own;have hz:mb<wr.heap.size:=by omega
  by_cases hlt:k<D.length
  · obtain⟨va',vc',ev,-,hc⟩:=R4.out.below HBR.out;injection ev with ev1 ev2 ev3
    subst ev1 ev3;obtain⟨vb,vo,rfl,hb,hcell⟩:=hc (by omega);obtain⟨p0,p1,p2⟩:=hcell k hlt;obtain⟨y,hy,ey⟩:=HIN.out.mem (List.getElem_mem hlt);have hsn:=zlw hlt (y:=y) (by rw[show zaS D[k].2.1 D[k].2.2=(y,0) by rw[ey];exact za3 y hy.1]);generalize D[k]=xx at p0 p1 p2 hy ey;obtain⟨ci,xk,xr⟩:=xx;dsimp only at p0 p1 p2 hy ey;have e2:(ci,xk,xr)=(ci,zaT y.1.kind y.1.name,zcF y):=ey;injection e2 with _ e3
    injection e3 with e4 e5
    have hdec:zc6 (Ds.bl xr)=some y:=by rw[e5];exact ztr y hy.1
    have hok:=hy.1;have HD:=lh (fun W (b:Below w.heap.size w W)=>zdn xr y W (HM.out W b).1 (HM.out W b).2 hdec);have j1:(0:Int)<=(k:Int):=by omega
    have j2:(k:Int)<(D.length:Int):=by omega
    have lv:∀ q,(Value.slice vA ts.length vC).ownBlock=some q->q<wr.heap.size:=fun q hq=>(zam HTJ.out.own q hq).2
    clear hcell hc ey e4 e5 hdec hy;by_cases k0:y.1.kind=0
    · have t0:(y.1.kind==0)=true:=beq_iff_eq.2 k0;have hrg:=zpK hok k0;rw[if_pos k0] at hsn;have HSN:=lh hsn;have HW:=lh (WalkArith.wf_i64 (by omega):(Lit.int .i64 y.1.d0).wf=true);have hcl:=Nat.le_trans (zrf (zem (D.take k)) y.1.d0) (Nat.le_trans (zn0 _) (by rw[List.length_take];exact Nat.min_le_left _ _));obtain⟨cn,hcn⟩:∃ cn,zgs (zem (D.take k)) y.1.d0=cn:=⟨_,rfl⟩;rw[hcn] at hcl;have HLK:=lh (fun W (h:KC W mb k (fun z=>((zgs (zem (D.take k)) z:Nat):Int)))=>(show (Instr.lookup 49 (.map (some mb)) (.int .i64 y.1.d0) false).run Tryz.prog W=.ok (.int .i64 (cn:Int)) W by have:=h.look y.1.d0 HW.out;rw[hcn] at this;exact this));have HCO:=lh (show (fun z=>if z=y.1.d0 then ((cn:Nat):Int)+1 else ((zgs (zem (D.take k)) z:Nat):Int))=fun z=>((zgs (zem (D.take (k+1))) z:Nat):Int) by rw[HSN.out,zlr,hcn]);have HW2:=lh (WalkArith.wf_i64 (by omega):(Lit.int .i64 ((cn:Int)+1)).wf=true);have c0:(0:Int)<=(cn:Int):=by omega
      have c1:(cn:Int)<100:=by omega
      clear hsn hrg k0 hok hcn
      go_wp2_with (first
       | (go_at_call 12;(refine (HD.out _ (bt (bt B4.out HBR.out) (zab wr _))).mono ?_);rintro _ w8 ⟨a1,c1',a2,c2,rfl,hI,hGs,hb8,hf1,hf2⟩;have hone:=zau y.1 (.slice a1 y.2.1.length c1') (.slice a2 y.2.2.length c2) rfl rfl;have bA:=zab w8 (.cells (y.1.vals (.slice a1 y.2.1.length c1') (.slice a2 y.2.2.length c2)) 40);have B9:=lh (bt (bt (zab wr _) hb8) bA);have zr:wr.heap.size<w8.heap.size:=(by have:=hb8.size;simp at this;omega);have z9:=bA.size;have R9:=zai w8 (y.1.vals (.slice a1 y.2.1.length c1') (.slice a2 y.2.2.length c2)) 40 (0,0);have N0:=zah R9 0 _ (zaC _ _ _);have N2:=zah R9 2 _ (zek _ _ _);have RT:=lh (show RdT (w8.alloc (.cells (y.1.vals (.slice a1 y.2.1.length c1') (.slice a2 y.2.2.length c2)) 40)) ((y,0),(a1,c1'),(a2,c2)) from ⟨hI.below bA,hGs.below bA⟩);have TB9:=lh (show TeB w6.heap.size mb ((y,0),(a1,c1'),(a2,c2)) from ⟨fun _ q hq=>by have:=hf1 q hq;simp at this;omega,fun _ q hq=>by have:=hf2 q hq;simp at this;omega⟩);have FT:=lh (show FarT (Value.slice vA ts.length vC).ownBlock ((y,0),(a1,c1'),(a2,c2)) from ⟨fun _ q hq e=>by have h7:=hf1 q hq;have:=lv q e;simp at h7;omega,fun _ q hq e=>by have h7:=hf2 q hq;have:=lv q e;simp at h7;omega⟩);have TJ9:=lh (HTJ.out.below B9.out);have KC9:=lh (HKC.out.block (B9.out.block mb hz));have lk9:=HLK.out _ KC9.out;clear hI hGs hb8 hf1 hf2 bA)
       | (at_mapUpdate;refine zwh _ rfl (.tmp 43) (.tmp 46) (.tmp 48) rfl mb k _ y.1.d0 ((cn:Int)+1) rfl KC9.out (by unfold maxLen;omega) rfl rfl HW.out HW2.out ?_;intro w10 hk10 G10;have KC10:=lh (hk10.congr HCO.out (Nat.le_refl _));have R10:=za4 R9 (by rw[zaa];decide) G10 (by omega);have RT10:=lh (RT.out.keep (ob:=some mb) ⟨fun h0 q hq e=>by have:=(TB9.out.1 h0 q hq).1;have:=Option.some.inj e;omega,fun h0 q hq e=>by have:=(TB9.out.2 h0 q hq).1;have:=Option.some.inj e;omega⟩ G10.size (fun q hq hne=>G10.block q hq (fun e=>hne e.symm)));have TJ10:=lh (TJ9.out.keep G10.size (fun q hq hor=>G10.block q hq (fun e=>by have e1:=Option.some.inj e;rcases hor with h|⟨t,ht,⟨h0,h⟩|⟨h0,h⟩⟩;omega;have:=((HTB.out t ht).1 h0 q h).1;omega;have:=((HTB.out t ht).2 h0 q h).1;omega)));have B10:=lh ((HBR.out.trans (B9.out.mono (by omega))).trans (zaU G10 (by omega) (Nat.le_trans HBR.out.size B9.out.size)));have z10:=G10.size;clear hk10 G10)
       | (at_builtin;refine zca _ rfl (.tmp 49) (.tmp 51) 50 40 _ _ 33 336 rfl Tryz.underlying50 ztS zlE zlF zlG (zaa _ _ _) (by decide) w6.heap.size (.slice vA ts.length vC) (.slice (some ⟨w10.heap.size,0,none⟩) 1 1) ts.length 1 (tcs TE.en ts) (y.1.vals (.slice a1 y.2.1.length c1') (.slice a2 y.2.2.length c2)).toList rfl (TJ10.out.below (zab w10 _)).own rfl (cs_one (by simp) (zaa _ _ _)) (all1 hone) (by unfold maxLen;omega) (by omega) (by simp;omega) ?_;intro a11 c11 w11 hown hg11 hat;have TJ11:=lh ((TJ10.out.below (zab w10 (.cells (y.1.vals (.slice a1 y.2.1.length c1') (.slice a2 y.2.2.length c2)) 40))).snoc (t:=((y,0),(a1,c1'),(a2,c2))) hown hg11 hat (RT10.out.below (zab w10 _)) FT.out);have bA11:=zab w10 (.cells (y.1.vals (.slice a1 y.2.1.length c1') (.slice a2 y.2.2.length c2)) 40);have lb11:=zam TJ10.out.own;have KC11:=lh ((KC10.out.block (bA11.block mb (by omega))).block (hg11.block mb (Nat.lt_of_lt_of_le (by omega:mb<w10.heap.size) bA11.size) (fun e=>by have:=(lb11 mb e.symm).1;omega)));have B11:=lh ((B10.out.trans (bA11.mono B10.out.size)).trans (za2 hg11 (fun q hq=>by have:=(lb11 q hq).1;have:=B10.out.size;omega) (Nat.le_trans B10.out.size bA11.size)));have z11:=Nat.le_trans bA11.size hg11.size;clear hown hg11 hat bA11 lb11))
      go_roundw
      case rel=>exact⟨k+1,ts++[((y,0),(a1,c1'),(a2,c2))],by omega,by go_num,TJ11,lh (by rw[HSN.out,List.map_append,HTS.out];rfl),by simp;omega,KC11,B11,lh (fun t ht=>by rcases List.mem_append.1 ht with ht|ht;exact HTB.out t ht;rw[List.mem_singleton.1 ht];exact TB9.out),by omega⟩
      case measure=>simp [intOf];omega
    · have t0:(y.1.kind==0)=false:=beq_eq_false_iff_ne.2 k0;rw[if_neg k0,List.append_nil] at hsn;have HSN:=lh hsn;have HLK:=lh (fun W (_:KC W mb k (fun z=>((zgs (zem (D.take k)) z:Nat):Int)))=>trivial);clear hsn k0 hok;go_wp2_with (go_at_call 12;(refine (HD.out _ (bt (bt B4.out HBR.out) (zab wr _))).mono ?_);rintro _ w8 ⟨a1,c1',a2,c2,rfl,hI,hGs,hb8,hf1,hf2⟩;have hone:=zau y.1 (.slice a1 y.2.1.length c1') (.slice a2 y.2.2.length c2) rfl rfl;have bA:=zab w8 (.cells (y.1.vals (.slice a1 y.2.1.length c1') (.slice a2 y.2.2.length c2)) 40);have B9:=lh (bt (bt (zab wr _) hb8) bA);have zr:wr.heap.size<w8.heap.size:=(by have:=hb8.size;simp at this;omega);have z9:=bA.size;have R9:=zai w8 (y.1.vals (.slice a1 y.2.1.length c1') (.slice a2 y.2.2.length c2)) 40 (0,0);have N0:=zah R9 0 _ (zaC _ _ _);have N2:=zah R9 2 _ (zek _ _ _);have RT:=lh (show RdT (w8.alloc (.cells (y.1.vals (.slice a1 y.2.1.length c1') (.slice a2 y.2.2.length c2)) 40)) ((y,0),(a1,c1'),(a2,c2)) from ⟨hI.below bA,hGs.below bA⟩);have TB9:=lh (show TeB w6.heap.size mb ((y,0),(a1,c1'),(a2,c2)) from ⟨fun _ q hq=>by have:=hf1 q hq;simp at this;omega,fun _ q hq=>by have:=hf2 q hq;simp at this;omega⟩);have FT:=lh (show FarT (Value.slice vA ts.length vC).ownBlock ((y,0),(a1,c1'),(a2,c2)) from ⟨fun _ q hq e=>by have h7:=hf1 q hq;have:=lv q e;simp at h7;omega,fun _ q hq e=>by have h7:=hf2 q hq;have:=lv q e;simp at h7;omega⟩);have TJ9:=lh (HTJ.out.below B9.out);have KC9:=lh (HKC.out.block (B9.out.block mb hz));have lk9:=HLK.out _ KC9.out;clear hI hGs hb8 hf1 hf2 bA)
      go_roundw
      case rel=>exact⟨k+1,ts,by omega,by go_num,TJ9,lh (by rw[HSN.out];exact HTS.out),by omega,lh (by rw[HSN.out];exact KC9.out.congr rfl (by omega)),lh (HBR.out.trans (B9.out.mono (by omega))),HTB,by have:=B9.out.size;omega⟩
      case measure=>simp [intOf];omega
  obtain rfl:k=D.length:=by omega
  have HEL:=HTJ.out.el (by omega);rw[HTS.out,List.take_length] at HEL;have hdl:(zem D).length=ts.length:=by have:=congrArg List.length HTS.out;rw[List.take_length,List.length_map] at this;exact this.symm
  have HEL:=lh HEL;have HKC:=lh (HKC.out.congr (by rw[List.take_length]:(fun z=>((zgs (zem (D.take D.length)) z:Nat):Int))=fun z=>((zgs (zem D) z:Nat):Int)) (Nat.le_refl _));have B6:=lh (bt B4.out HBR.out);have R6:=lh (R4.out.below HBR.out);have O6:=lh (fun q hq=>Nat.lt_of_lt_of_le (O4.out q hq) HBR.out.size);have hans:=fun x (hx:x∈zem D)=>zty HIN.out hx
  have hd0:=fun x (hx:x∈zem D)=>(show 1<=x.1.d0∧x.1.d0<=1099511627776 by obtain⟨c,hc,hk⟩:=(zgw HIN.out).1 hx;exact zpK hc.1 hk)
  have hno:=zq2 HIN.out;have HNO:=lh hno;have HANS:=lh hans;have HD0:=lh hd0;generalize zem D=dl at HEL HKC HANS HD0 hdl;clear HTJ HTS HTB K4 BM zM hW6 hans hno hd0 hlt;obtain⟨w7,hw7⟩:∃ w7,w7=wr:=⟨_,rfl⟩;subst hw7;go_wp2_with fail
  go_loopw [56] (fun i wr=>∃ j:Nat,j<=ts.length∧i=.int .i64 j∧Hid (Below w7.heap.size w7 wr)) (fun i _=>ts.length - (intOf i).toNat)
  case atStart=>exact⟨0,Nat.zero_le _,rfl,lh (Below.refl _ _)⟩
  case round =>
   obtain⟨j,hj,rfl,HBR2⟩:=hrel;by_cases hlt:j<ts.length
   rotate_left
   · obtain rfl:j=ts.length:=by omega
     have HB2:=lh (bt B6.out HBR2.out);have HBN:=lh (zlm (.slice va D.length vc) D wr (HM.out _ HB2.out).1 (HM.out _ HB2.out).2 (R6.out.below HBR2.out) (fun q hq=>Nat.lt_of_lt_of_le (O6.out q hq) HBR2.out.size) HX.out HNO.out)
     go_wp2_with (first
      | (go_at_call 11;(with_reducible refine (sh36 _ _ _ _).mono ?_);rintro _ _ ⟨rfl,rfl⟩)
      | (go_at_call 16;(refine HBN.out.mono ?_);rintro _ w9 ⟨al9,gr9,rfl,hone9,hb9⟩;have B9:=lh (bt HB2.out hb9);clear hb9))
     go_ret
     exact⟨rfl,bt B9.out (zab _ _)⟩
   obtain⟨aE,cE,eE,-,hE⟩:=HEL.out.below HBR2.out;injection eE with eE1 eE2 eE3
   subst eE1 eE3;clear eE2;obtain⟨b,o,al,gr,rfl,hb,hmid,hI,hG⟩:=hE j (by omega);have hmem:dl[j]'(by omega)∈dl:=List.getElem_mem _;obtain⟨z,hz1,hz2,hz3⟩:=HANS.out _ hmem;have hrg:=HD0.out _ hmem;generalize dl[j]'(by omega)=x at hmid hI hG hz1 hz2 hz3 hrg;have hone:=zau x.1 al gr (zaP hI) (zaO hG);have z33:(mid wr b (o+j*33)).size=33:=by rw[hmid];exact zaa _ _ _
   have j1:(0:Int)<=(j:Int):=by omega
   have j2:(j:Int)<(ts.length:Int):=by omega
   have bA:=zab wr (.cells (x.1.vals al gr) 40);have S9:Hid (MiS w7 (wr.alloc (.cells (x.1.vals al gr) 40)) wr.heap.size x al gr):=lh ⟨bt HBR2.out bA,zai _ _ _ _,hI.below bA,hG.below bA,by simp⟩;have HF1:=lh hz1;have HZ3:=lh hz3;have tne:(z.1.d0 != x.1.d0)=false:=by rw[hz2];simp
   have HWX:=lh (WalkArith.wf_i64 (by omega):(Lit.int .i64 x.1.d0).wf=true);clear hE hI hG hz1 hz2 hz3 hmem bA hrg;go_upto_region 19 with fail
   generalize wr.alloc (.cells (x.1.vals al gr) 40)=wS at S9 ⊢;obtain⟨BX,hBX⟩:∃ q,wr.heap.size=q:=⟨_,rfl⟩;rw[hBX] at S9 ⊢;clear hmid z33 hb hBX;have C1:=zah S9.out.ry 2 _ (zek _ _ _);have HMX:=lh (HM.out _ (bt B6.out S9.out.b)).1;have HTX:=lh (HM.out _ (bt B6.out S9.out.b)).2;have HRR:=lh (R6.out.below S9.out.b);have HRQ:=lh (fun q (hq:(Value.slice va D.length vc).ownBlock=some q)=>Nat.lt_of_lt_of_le (O6.out q hq) S9.out.b.size);have KS:∀ {w':World},Below wS.heap.size wS w'->w'.cell? ⟨BX,2,none⟩=some (.int .i64 x.1.d0):=fun b=>(b.cell (p:=⟨BX,2,none⟩) S9.out.lb).trans C1
   have HFN:=HF1;try go_frame
   go_cut [12,13] (fun t12 t13 wx=>∃ q al gr,t12=.pointer (some ⟨q,0,none⟩)∧t13=.int .i64 0∧row wx q=z.1.vals al gr∧IS wx al z.2.1∧GS wx gr z.2.2∧Below wS.heap.size wS wx)
   case first =>
    refine wp_region_held_drew (S:=(fun w'=>w'.cell? ⟨BX,2,none⟩=some (.int .i64 x.1.d0))) (by kernel_rfl) C1 (fun hHeld=>?_)
    (refine rgy (i:=0) (some 61) ?_;(try simp only[Act.put,pz]))
    (refine rgy (i:=3) (some 64) ?_;(try simp only[Act.put,pz]))
    (refine rgy (i:=4) (some 65) ?_;(try simp only[Act.put,pz]))
    (refine rgy (i:=5) (some 66) ?_;(try simp only[Act.put,pz]))
    have bdA:Below wS.heap.size wS wS.drew:=(Below.refl _ _).drew;have HRD:=lh (HRR.out.below bdA);refine wpAnyH_ready (rs:=[1,10]) (by kernel_rfl) (by simp) ?_
    refine AllReadyH.cons (o:=_) rfl (fun K hK=>?_) (AllReadyH.cons (o:=_) rfl (fun K hK=>?_) AllReadyH.nil)
    · go_simp
      go_at_call 11
      refine (sh36 _ _ _ _).mono ?_
      rintro _ _ ⟨rfl,rfl⟩;have bS:=bdA.alloc bdA.size (.cells #[.slice va D.length vc,.int .i64 0,.int .i64 0,.int .i64 0] 68);have hS:=zc0 (.slice va D.length vc) D wS.drew wS.heap.size rfl HRD.out HRQ.out;have z1:wS.heap.size<(wS.drew.alloc (.cells #[.slice va D.length vc,.int .i64 0,.int .i64 0,.int .i64 0] 68)).heap.size:=by rw[World.size_alloc];exact Nat.lt_succ_self _
      generalize hW1:wS.drew.alloc (.cells #[.slice va D.length vc,.int .i64 0,.int .i64 0,.int .i64 0] 68)=W1 at bS hS z1 ⊢;refine hK.out _ _ (KS bS) (fun hHeld=>?_)
      (clear hK K;(try simp only[Act.put,pz]))
      (refine rgy (i:=2) (some 63) ?_;(try simp only[Act.put,pz]))
      refine wpAnyH_ready (rs:=[6,10]) (by kernel_rfl) (by simp) ?_
      refine AllReadyH.cons (o:=_) rfl (fun K hK=>?_) (AllReadyH.cons (o:=_) rfl (fun K hK=>?_) AllReadyH.nil)
      · go_simp
        go_at_call 16
        refine (ziR wS.heap.size _ D x.1.d0 z wS.drew W1 (HMX.out.below bdA) (HTX.out.below bdA) hS (fun b hb=>by have:=HRQ.out b hb;show b<wS.heap.size;omega) HX.out HFN.out).mono ?_
        rintro _ w9 ⟨al,gr,rfl,hI9,hG9,o1,o2,hb9,hg9⟩;have hone9:=zau z.1 al gr (zaP hI9) (zaO hG9);have b9:Below wS.heap.size wS w9:=bdA.trans hb9;refine hK.out _ _ (KS b9) (fun hHeld=>?_)
        (clear hK K;(try simp only[Act.put,pz]))
        (refine rgy (i:=7) (some 60) ?_;(try simp only[Act.put,pz]))
        (refine rgy (i:=8) (some 68) ?_;(try simp only[Act.put,pz]))
        (refine rgy (i:=9) (some 69) ?_;(try simp only[Act.put,pz]))
        refine wpAnyH_ready (rs:=[10]) (by kernel_rfl) (by simp) ?_
        refine AllReadyH.cons (o:=_) rfl (fun K hK=>?_) AllReadyH.nil
        refine zgN w9 (some 12) rfl rfl rfl ?_
        refine hK.out _ _ (KS (b9.alloc b9.size _)) (fun hHeld=>?_)
        (clear hK K;(try simp only[Act.put,pz]))
        try simp only[Act.put,List.setIfInBounds_toArray,List.set_cons_zero,List.set_cons_succ]
        refine wpAnyH_ready (rs:=[11]) (by kernel_rfl) (by simp) ?_
        refine AllReadyH.cons (o:=_) rfl (fun K hK=>?_) AllReadyH.nil
        refine zgO (w9.alloc (.cells (zlit 0 ⟨#[]⟩) 40)) (x:=(.tmp 12)) (y:=(.tmp 68)) (q:=w9.heap.size) (cs:=z.1.vals al gr) rfl rfl rfl rfl rfl (Held.new w9 (zlit 0 ⟨#[]⟩) 40 33 rfl (by decide)) (zaa _ _ _) hone9 ?_
        have LF:=zoA (wD:=wS) (q:=w9.heap.size) (x:=z) (b9.alloc b9.size _) b9.size (Held.new w9 (zlit 0 ⟨#[]⟩) 40 33 rfl (by decide)) (hI9.below (zab w9 _)) (hG9.below (zab w9 _)) (fun h0 b hb=>by have:=zgK hI9 h0 b hb;omega) (fun h0 b hb=>by have:=zgI hG9 h0 b hb;omega);refine hK.out _ _ (KS LF.2.2.2) (fun hHeld=>?_)
        (clear hK K;(try simp only[Act.put,pz]))
        (refine rgy (i:=12) (some 13) ?_;(try simp only[Act.put,pz]))
        try simp only[Act.put,List.setIfInBounds_toArray,List.set_cons_zero,List.set_cons_succ]
        refine wpAnyH_done (by kernel_rfl) ?_ _
        obtain⟨l1,l2,l3,l4⟩:=LF;have L1:=lh l1;have L2:=lh l2;have L3:=lh l3;have L4:=lh l4;clear l1 l2 l3 l4 hHeld;go_wp2_with fail
        go_meet
        exact⟨_,_,_,rfl,rfl,L1.out,L2.out,L3.out,L4.out⟩
      · refine zgN W1 (some 12) rfl rfl rfl ?_
        have bW:Below wS.heap.size wS (W1.alloc (.cells (zlit 0 ⟨#[]⟩) 40)):=bS.alloc bS.size _;refine hK.out _ _ (KS bW) (fun hHeld=>?_)
        (clear hK K;(try simp only[Act.put,pz]))
        have H2:=Held.new W1 (zlit 0 ⟨#[]⟩) 40 33 rfl (by decide);have hS2:=hS.below (zab W1 (.cells (zlit 0 ⟨#[]⟩) 40));have z2:W1.heap.size<(W1.alloc (.cells (zlit 0 ⟨#[]⟩) 40)).heap.size:=by rw[World.size_alloc];exact Nat.lt_succ_self _
        generalize hW2:W1.alloc (.cells (zlit 0 ⟨#[]⟩) 40)=W2 at H2 hS2 z2 ⊢;refine wpAnyH_ready (rs:=[6]) (by kernel_rfl) (by simp) ?_
        refine AllReadyH.cons (o:=_) rfl (fun K hK=>?_) AllReadyH.nil
        go_simp
        go_at_call 16
        refine (ziR wS.heap.size _ D x.1.d0 z wS.drew W2 (HMX.out.below bdA) (HTX.out.below bdA) hS2 (fun b hb=>by have:=HRQ.out b hb;show b<wS.heap.size;omega) HX.out HFN.out).mono ?_
        rintro _ w9 ⟨al,gr,rfl,hI9,hG9,o1,o2,hb9,hg9⟩;have hone9:=zau z.1 al gr (zaP hI9) (zaO hG9);have b9:Below wS.heap.size wS w9:=bdA.trans hb9;have H9:=zbV H2 hg9 (by omega);refine hK.out _ _ (KS b9) (fun hHeld=>?_)
        (clear hK K;(try simp only[Act.put,pz]))
        (refine rgy (i:=7) (some 60) ?_;(try simp only[Act.put,pz]))
        (refine rgy (i:=8) (some 68) ?_;(try simp only[Act.put,pz]))
        (refine rgy (i:=9) (some 69) ?_;(try simp only[Act.put,pz]))
        try simp only[Act.put,List.setIfInBounds_toArray,List.set_cons_zero,List.set_cons_succ]
        refine wpAnyH_ready (rs:=[11]) (by kernel_rfl) (by simp) ?_
        refine AllReadyH.cons (o:=_) rfl (fun K hK=>?_) AllReadyH.nil
        obtain⟨BQ,hBQ⟩:∃ q,W1.heap.size=q:=⟨_,rfl⟩;rw[hBQ] at H9 ⊢;refine zgO w9 (x:=(.tmp 12)) (y:=(.tmp 68)) (q:=BQ) (cs:=z.1.vals al gr) rfl rfl rfl rfl rfl H9 (zaa _ _ _) hone9 ?_
        have LF:=zoA (wD:=wS) (q:=BQ) (x:=z) b9 (by omega) H9 hI9 hG9 (fun h0 b hb=>by have:=o1 h0 b hb;omega) (fun h0 b hb=>by have:=o2 h0 b hb;omega);refine hK.out _ _ (KS LF.2.2.2) (fun hHeld=>?_)
        (clear hK K;(try simp only[Act.put,pz]))
        (refine rgy (i:=12) (some 13) ?_;(try simp only[Act.put,pz]))
        try simp only[Act.put,List.setIfInBounds_toArray,List.set_cons_zero,List.set_cons_succ]
        refine wpAnyH_done (by kernel_rfl) ?_ _
        obtain⟨l1,l2,l3,l4⟩:=LF;have L1:=lh l1;have L2:=lh l2;have L3:=lh l3;have L4:=lh l4;clear l1 l2 l3 l4 hHeld;go_wp2_with fail
        go_meet
        exact⟨_,_,_,rfl,rfl,L1.out,L2.out,L3.out,L4.out⟩
    · refine zgN wS.drew (some 12) rfl rfl rfl ?_
      have bS:=bdA.alloc bdA.size (.cells (zlit 0 ⟨#[]⟩) 40);have H1:=Held.new wS.drew (zlit 0 ⟨#[]⟩) 40 33 rfl (by decide);have z1:wS.heap.size<(wS.drew.alloc (.cells (zlit 0 ⟨#[]⟩) 40)).heap.size:=by rw[World.size_alloc];exact Nat.lt_succ_self _
      rw[show wS.drew.heap.size=wS.heap.size from rfl] at H1 ⊢;generalize hW1:wS.drew.alloc (.cells (zlit 0 ⟨#[]⟩) 40)=W1 at bS H1 z1 ⊢;refine hK.out _ _ (KS bS) (fun hHeld=>?_)
      (clear hK K;(try simp only[Act.put,pz]))
      refine wpAnyH_ready (rs:=[1]) (by kernel_rfl) (by simp) ?_
      refine AllReadyH.cons (o:=_) rfl (fun K hK=>?_) AllReadyH.nil
      go_simp
      go_at_call 11
      refine (sh36 _ _ _ _).mono ?_
      rintro _ _ ⟨rfl,rfl⟩;have hS:=zc0 (.slice va D.length vc) D W1 W1.heap.size rfl (HRR.out.below bS) (fun b hb=>by have:=HRQ.out b hb;omega);have bT:=zab W1 (.cells #[.slice va D.length vc,.int .i64 0,.int .i64 0,.int .i64 0] 68);have z2:W1.heap.size<(W1.alloc (.cells #[.slice va D.length vc,.int .i64 0,.int .i64 0,.int .i64 0] 68)).heap.size:=by rw[World.size_alloc];exact Nat.lt_succ_self _
      generalize hW2:W1.alloc (.cells #[.slice va D.length vc,.int .i64 0,.int .i64 0,.int .i64 0] 68)=W2 at hS bT z2 ⊢;refine hK.out _ _ (KS (bt bS bT)) (fun hHeld=>?_)
      (clear hK K;(try simp only[Act.put,pz]))
      (refine rgy (i:=2) (some 63) ?_;(try simp only[Act.put,pz]))
      refine wpAnyH_ready (rs:=[6]) (by kernel_rfl) (by simp) ?_
      refine AllReadyH.cons (o:=_) rfl (fun K hK=>?_) AllReadyH.nil
      go_simp
      go_at_call 16
      refine (ziR W1.heap.size _ D x.1.d0 z W1 W2 (HMX.out.below bS) (HTX.out.below bS) hS (fun b hb=>by have:=HRQ.out b hb;show b<W1.heap.size;omega) HX.out HFN.out).mono ?_
      rintro _ w9 ⟨al,gr,rfl,hI9,hG9,o1,o2,hb9,hg9⟩;have hone9:=zau z.1 al gr (zaP hI9) (zaO hG9);have b9:Below wS.heap.size wS w9:=bt bS hb9;have H9:=H1.below hb9;refine hK.out _ _ (KS b9) (fun hHeld=>?_)
      (clear hK K;(try simp only[Act.put,pz]))
      (refine rgy (i:=7) (some 60) ?_;(try simp only[Act.put,pz]))
      (refine rgy (i:=8) (some 68) ?_;(try simp only[Act.put,pz]))
      (refine rgy (i:=9) (some 69) ?_;(try simp only[Act.put,pz]))
      try simp only[Act.put,List.setIfInBounds_toArray,List.set_cons_zero,List.set_cons_succ]
      refine wpAnyH_ready (rs:=[11]) (by kernel_rfl) (by simp) ?_
      refine AllReadyH.cons (o:=_) rfl (fun K hK=>?_) AllReadyH.nil
      obtain⟨BQ,hBQ⟩:∃ q,wS.heap.size=q:=⟨_,rfl⟩;rw[hBQ] at H9 ⊢;refine zgO w9 (x:=(.tmp 12)) (y:=(.tmp 68)) (q:=BQ) (cs:=z.1.vals al gr) rfl rfl rfl rfl rfl H9 (zaa _ _ _) hone9 ?_
      have LF:=zoA (wD:=wS) (q:=BQ) (x:=z) b9 (by omega) H9 hI9 hG9 (fun h0 b hb=>by have:=o1 h0 b hb;omega) (fun h0 b hb=>by have:=o2 h0 b hb;omega);refine hK.out _ _ (KS LF.2.2.2) (fun hHeld=>?_)
      (clear hK K;(try simp only[Act.put,pz]))
      (refine rgy (i:=12) (some 13) ?_;(try simp only[Act.put,pz]))
      try simp only[Act.put,List.setIfInBounds_toArray,List.set_cons_zero,List.set_cons_succ]
      refine wpAnyH_done (by kernel_rfl) ?_ _
      obtain⟨l1,l2,l3,l4⟩:=LF;have L1:=lh l1;have L2:=lh l2;have L3:=lh l3;have L4:=lh l4;clear l1 l2 l3 l4 hHeld;go_wp2_with fail
      go_meet
      exact⟨_,_,_,rfl,rfl,L1.out,L2.out,L3.out,L4.out⟩
   case rest =>
    obtain⟨q1,al1,gr1,rfl,rfl,hq1,hI1,hG1,hB1⟩:=hcut;have S11:=lh (S9.out.below hB1);have R1:=hq1;have hone1:=zau z.1 al1 gr1 (zaP hI1) (zaO hG1);have I1:=lh hI1;have G1:=lh hG1;have N2:=zah S11.out.ry 2 _ (zek _ _ _);have M2:=zah R1 2 _ (zek _ _ _);have b11:=S11.out.b;have E11:=S11.out.ry;have J11:=lh S11.out.i;have L11:=lh S11.out.g;have hlk:=(HKC.out.block (b11.block mb hz)).look x.1.d0 HWX.out;try dsimp only at hlk
    clear hq1 hI1 hG1 hB1 KS C1 HMX HTX HRR HRQ HFN S9;by_cases hc1:zgs dl x.1.d0=1
    · obtain rfl:=HZ3.out hc1;rw[hc1] at hlk;have hlk2:=hlk;clear hc1 hlk;go_wp2_with (go_at_call 15;(refine (zni _ _ _ _ _ _ J11.out L11.out I1.out G1.out).mono ?_);rintro _ w12 ⟨rfl,hb⟩;have B12:=lh (bt b11 hb);clear hb)
      go_roundw
      case rel=>exact⟨j+1,by omega,by go_num,B12⟩
      case measure=>simp [intOf];omega
    · obtain⟨cn,hcn⟩:∃ cn,zgs dl x.1.d0=cn:=⟨_,rfl⟩;rw[hcn] at hlk hc1;have t1:((cn:Int)==1)=false:=beq_eq_false_iff_ne.2 (by omega);clear hc1 hcn;go_wp2_with fail
      go_roundw
      case rel=>exact⟨j+1,by omega,by go_num,lh b11⟩
      case measure=>simp [intOf];omega
theorem zue(a0:Option Addr)(n0 c0:Nat)(F:Nat->Oz)(w:World)(hm:MaxL w)(hT:Tab w)(hL:OS w a0 n0 F) :
  Calls Tryz.prog 4 #[.slice a0 n0 c0] w fun r w'=>r=.returned (.bool true)∧Below w.heap.size w w':=by
 by_cases h:n0<=16∧∀ k,k<n0->few6X (F k)
 · obtain⟨Z,hO⟩:=hL.ol fun k hk=>by
    obtain⟨q1,q2,q3,q4,q5⟩:=h.2 k hk;exact⟨by omega,by omega,q1,q5⟩
   exact zkG a0 n0 c0 F Z w hm hT hL hO h.1
 · exact zmn a0 n0 c0 F w hm hT hL h
end
end Go.Proofs.YtefcmdmfgdcpmaaGreatDoor
section
namespace Go.Proofs.YtefcmdmfgdcpmaaGreatDoor.masterIds
open Go.ChangeShapes Go.WideShapes Go.ChangeAt Go.RowKit Go.Proofs.YtefcmdmfgdcpmaaGreatDoor
open Go.ChangeMaps (open_string)
set_option maxRecDepth 100000 in
theorem contract(H:Type)(enc:TypeId × Value->H)(W:World)(base:Nat)(args:Array Value)(ds gs:List (DataW H))(before:List MemPlace)(hval:∀ (j:Nat) t v,Tryz.f4.params[j]?=some t->args[j]?=some v->Value.okWide Tryz.prog W .any base t v)(hW:DataW.Whole enc Tryz.prog Tryz.f4.params.toList Rows.masterIdsSpec.vars false W args.toList ds gs before)(hL:laidMetH Tryz.prog Rows.masterIdsRow.laid W)(hS:W.ShapedOpen Tryz.prog) :
  Calls Tryz.prog 4 args W fun e W'=>∃ v,e=.returned v∧Rows.masterIdsSpec.post enc Tryz.prog Tryz.f4 false true false false W args v W':=by
 have hW':=hW;have hlt:∀ x∈before,x.block<W.heap.size:=fun x hx=>by simpa using hW'.lt x hx
 obtain⟨p,q,hA0,hV,rfl,hfz,hnd⟩:=hW;have hA:DataW.TrodAll enc Tryz.prog W 0 (fun _=>true) true Tryz.f4.params.toList args.toList ds p:=hA0;have hK:=hA;rw[Tryz.params4] at hA hval;obtain⟨v0,vs0,d0,ds0,p0,q0,hargs,rfl,rfl,h0,r0⟩:=trodAll_cons hA;obtain⟨rfl,rfl,rfl⟩:=trodAll_nil r0;obtain rfl:args=#[v0]:=by cases args;simp_all
 obtain⟨rfl,rfl⟩:=trodVars_none hV;obtain⟨a0,n0,c0,F0,rfl,o0⟩:=zgU (hval 0 22 v0 rfl rfl) h0;rw[MakeChecks.laidMetH_plain _ _ _ (by kernel_rfl)] at hL;refine (zue a0 n0 c0 F0 W (zmK hS) (znt hL) o0).mono fun e W' ⟨he,hb⟩=>?_
 subst he;exact⟨_,rfl,_,_,_,[],_,[],hW',trodAll_cons_mk (shut_bool Tryz.underlying4 _) trodAll_mk0,zeo hb (by rw[Tryz.params4];kernel_rfl) hK (fun x hx=>hlt x (by simpa using hx)),rfl,hb.frame _,fun h=>by cases h⟩
theorem laid_met(os:Os):laidMetH Tryz.prog Rows.masterIdsRow.laid ((World.laidAll Tryz.prog os Rows.masterIdsRow.laid).forCall (fun _ _=>0) ⟨#[],#[(.slice none 0 0:Value)],[]⟩).memory:=by
 rw[MakeChecks.laidMetH_plain _ _ _ (by kernel_rfl)];exact laidMet_laidAll _ (by kernel_rfl) (by kernel_rfl)
theorem reads(os:Os){H:Type}(enc:TypeId × Value->H):∃ places,DataW.whole enc Tryz.prog ((World.laidAll Tryz.prog os Rows.masterIdsRow.laid).forCall (fun _ _=>0) ⟨#[],#[(.slice none 0 0:Value)],[]⟩).memory Tryz.f4.params.toList Rows.masterIdsSpec.vars false #[(.slice none 0 0:Value)].toList 8=some ([.nil],[],places) :=
 ⟨[],by kernel_rfl⟩
set_option maxRecDepth 100000 in
theorem lifted(os:Os)(started:os.Started)(H:Type)(enc:TypeId × Value->H)(F:Stop.Interp) :
  ReturnsInHanded {} Tryz.checked os 4 .any ((OpenSpec.ofChange Rows.masterIdsSpec).preRow enc Tryz.prog Tryz.f4 Rows.masterIdsRow.domain false Rows.masterIdsRow.laid) (((OpenSpec.ofChange Rows.masterIdsSpec).at F).post enc Tryz.prog Tryz.f4 false true false false):=by
 obtain⟨places,hx⟩:=reads os enc
 refine returnsInHanded_of_row (C:=Tryz.checked) (s:=OpenSpec.ofChange Rows.masterIdsSpec) ownk started (by kernel_rfl) Tryz.func4
  (zdO (enc:=enc) (C:=Tryz.checked) false #[(.slice none 0 0:Value)] (World.shaped_of_ZipB (by kernel_rfl) (by kernel_rfl)) (by kernel_rfl)
    (OpenSpec.preRow_of_cond 8 hx (by kernel_rfl) (fun k hk=>by cases hk) (by kernel_rfl) (laid_met os))) ?_
 intro W base args ds gs before hval hW _ _ _ hL hS _;exact contract H enc W base args ds gs before hval hW hL hS
theorem said:Rows.MasterIdsSaid :=
 OpenClaim.holds_of_cond 4 Tryz.f4 rfl rfl rfl rfl rfl rfl rfl ⟨rfl,rfl,rfl,rfl,rfl⟩ rfl rfl rfl rfl rfl (by kernel_rfl) Tryz.func4 joined_masterIds
  (of_decide_eq_true (by kernel_rfl)) (by unfold Func.isWrapper;first|(rw[if_pos (by decide +kernel)];kernel_rfl)|(rw[if_neg (by decide +kernel)];exact⟨rfl,rfl⟩))
  (fun os started H enc _ F=>by rw[OpenClaim.pre_eq_preRow];exact lifted os started H enc F)
theorem plain(f:FuncId)(fn:Func)(hf:Tryz.pinned.checked.prog.funcNamed Rows.masterIdsRow.func=some f)(hfn:Tryz.pinned.checked.prog.funcs[f]?=some fn) :
  false=Tryz.pinned.checked.prog.looks []∧∀ (j:Nat) t,fn.params[j]?=some t->Tryz.pinned.checked.prog.wantsStandIn t=false:=by
 obtain rfl:f=4:=Option.some.inj ((show Tryz.prog.funcNamed Rows.masterIdsRow.func=some 4 by kernel_rfl).symm.trans hf) |>.symm
 obtain rfl:fn=Tryz.f4:=(Option.some.inj (Tryz.func4.symm.trans hfn)).symm;refine⟨by kernel_rfl,fun j t ht=>?_⟩
 rw[Tryz.params4] at ht;have hm:=Array.mem_of_getElem? ht;have ha:(#[22]:Array TypeId).all (fun t=>!Tryz.prog.wantsStandIn t)=true:=by kernel_rfl
 have:=(Array.all_eq_true_iff_forall_mem.1 ha) t hm;exact (show Tryz.prog.wantsStandIn t=false by simpa using this)
theorem card:Rows.MasterIdsCardSaid :=
 Claim7.holds_tied_plain_at .later [] _ _ _ _ said (fun _ h=>by cases h) (by kernel_rfl) (fun _ h=>by cases h) masterIds_row_tie rfl ⟨rfl,rfl⟩ (by kernel_rfl) rfl plain (by kernel_rfl)
end Go.Proofs.YtefcmdmfgdcpmaaGreatDoor.masterIds
end
