/- Catalogs. -/
import Derived.Test.YtefcmdmfgdcpmaaGreatDoorBz
import Derived.Test.YtefcmdmfgdcpmaaGreatDoorJMasterLists
set_option maxRecDepth 8000
set_option maxHeartbeats 16000000
namespace Go.Proofs.YtefcmdmfgdcpmaaGreatDoor
section
open Go.RowKit
def pN(s:ByteArray):Value:=.string s
theorem mk_n:MK pN Tryz.prog 53 9 4 (.bool false) where
 hu:=Tryz.underlying53
 ck b k w:=by cases b <;> kernel_rfl
 fk k es w:=ztT (pk:=pN) Tryz.underlying9 (fun a b=>by
  unfold pN;simp only[Instr.sameNow]
  congr 1
  rw[Bool.eq_iff_iff,decide_eq_true_eq];exact MapKept.bytes_beq a b) k es w
 sb k:=by unfold pN;unfold Instr.sameBits;simp [MapKept.bytes_beq]
 zv w:=by kernel_rfl
def esN(l:List Fu):List (ByteArray × Value):=l.map fun y=>(y.1.name,Value.bool true)
theorem zjC(n:ByteArray):∀ l:List Fu,(∀ z∈l,z.1.name≠n)->gget n (esN l)=none
 | [],_=>rfl
 | y::l,h=>by
   show (if n=y.1.name then some (Value.bool true) else gget n (esN l))=none
   rw[if_neg (fun e=>h y List.mem_cons_self e.symm)];exact zjC n l (fun z hz=>h z (List.mem_cons_of_mem _ hz))
theorem zjD(n:ByteArray):∀ l:List Fu,(∃ z∈l,z.1.name=n)->gget n (esN l)=some (.bool true)
 | [],h=>by obtain⟨z,hz,-⟩:=h;cases hz
 | y::l,h=>by
   show (if n=y.1.name then some (Value.bool true) else gget n (esN l))=_
   by_cases e:n=y.1.name
   · rw[if_pos e]
   · rw[if_neg e];obtain⟨z,hz,hn⟩:=h;rcases List.mem_cons.1 hz with rfl|hz
     · exact absurd hn.symm e
     · exact zjD n l ⟨z,hz,hn⟩
theorem zru(l:List Fu)(y:Fu)(h:∀ z∈l,z.1.name≠y.1.name):gput y.1.name (.bool true) (esN l)=esN (l++[y]):=by
 rw[zfp _ _ _ (zjC _ l h)];unfold esN;rw[List.map_append];rfl
theorem zrt(l:List Fu):(esN l).length=l.length:=by unfold esN;rw[List.length_map]
theorem zl2(es:List (ByteArray × Value)):(gent pN es).size=es.length:=by unfold gent;rw[List.size_toArray,zdZ]
def NM(w:World)(b:Nat)(l:List Fu):Prop:=w.heap[b]?=some (.map (gent pN (esN l)) (esN l).length)
theorem NM.made(w:World):NM (w.alloc (.map #[] 0)) w.heap.size []:=heap_alloc_new w _
theorem NM.block{w w':World}{b:Nat}{l:List Fu}(h:NM w b l)(k:w'.heap[b]?=w.heap[b]?):NM w' b l:=k.trans h
theorem NM.look{w:World}{b:Nat}{l:List Fu}(h:NM w b l)(n:ByteArray)(hn:∃ z∈l,z.1.name=n):(Instr.lookup 53 (.map (some b)) (.string n) false).run Tryz.prog w=.ok (.bool true) w:=by
 have:=mk_n.lk w b (esN l).length (esN l) n false h;rw[zjD n l hn] at this;exact this
theorem NM.len{w:World}{b:Nat}{l:List Fu}(h:NM w b l):(Builtin.len_ #[53] 3 #[.map (some b)]).run Tryz.prog w=.ok (.int .i64 (l.length:Int)) w:=by
 have hh:w.heap[b]?=some (.map (gent pN (esN l)) (esN l).length):=h;simp [Builtin.len_,run_underlying Tryz.underlying53,MapKept.run_getObj_map hh,goInt,Result.andThen,zl2,zrt]
theorem zob{D:List Rw}(h:Inv D){pt:ByteArray}{k:Nat}{y:Fu}(he:zen (D.take (k+1)) pt=zen (D.take k) pt++[y]):∀ z∈zen (D.take k) pt,z.1.name≠y.1.name:=by
 have hs:List.Sublist (zen (D.take (k+1)) pt) (zen D pt):=by
  unfold zen;exact ((List.take_sublist _ _).map _).filter _
 have hp:=(zlI h (pt:=pt)).sublist hs;rw[he,List.pairwise_append] at hp;exact fun z hz=>hp.2.2 z hz y (List.mem_singleton.2 rfl)
end
section
open Go.RowKit
set_option linter.unusedSimpArgs false
def mlA(D:List Rw)(pt:ByteArray)(most:Int):List Fu × Int:=if most<0 then ([],1) else if most<((mX D pt).length:Int) then ([],8) else (mX D pt,0)
theorem zuq(sv:Value)(D:List Rw)(pt:ByteArray)(most:Int)(w:World)(hm:MaxL w)(hT:Tab w)(hr:RwS w sv D)(hso:∀ b,sv.ownBlock=some b->b<w.heap.size)(hinv:Inv D)(hl:D.length<=19)(hkz:∀ x∈D,x.2.1.size<=1000)(hp:Ds.pat (Ds.bl pt)=true) :
  Calls Tryz.prog 19 #[.iface 31 (.pointer (some ⟨w.heap.size,0,none⟩)),.string pt,.int .i64 most] (w.alloc (.cells #[sv,.int .i64 0,.int .i64 0,.int .i64 0] 68)) fun r w'=>∃ hv,r=.returned (.tuple #[hv,.int .i64 (mlA D pt most).2])∧SeO w' hv (mlA D pt most).1∧Below w.heap.size w w':=by
 have hS:=zb9 sv D w hr hso;have h19:=zsh hinv hl (fl:=0) (cd:=0) (most:=most) pt hp (.inl ⟨rfl,rfl⟩);refine (zoF w.heap.size sv D 0 0 0 most pt w _ hm hT hS (fun b hb=>Nat.lt_of_lt_of_le (hso b hb) hS.b.size) hl hkz (Int.le_refl _) (by decide) (.inr (Int.le_refl _)) (hinv.rdL 1 67) h19).mono ?_
 rintro r w' ⟨hv,h1,h2,h3,-⟩;rw[zmN hinv (by omega) pt hp most] at h1 h2;exact⟨hv,h1,h2,h3.b⟩
theorem zsf(S:List SE)(hs:S.Pairwise (fun x y=>decide (SE.cf y x<0)=false))(hn:(S.map fun x=>x.1.e.name).Nodup)(i j:Nat)(hj:j<S.length)(hi:i<j):Op.bytesLess (S[i]'(by omega)).1.e.name.toList S[j].1.e.name.toList=true:=by
 have h1:=List.pairwise_iff_getElem.1 hs i j (by omega) hj hi
 have h2:(S[i]'(by omega)).1.e.name≠S[j].1.e.name:=fun e=>by
  have:=List.pairwise_iff_getElem.1 hn i j (by simpa using (by omega:i<S.length)) (by simpa using hj) hi;rw[List.getElem_map,List.getElem_map] at this;exact this e
 rw[show Op.bytesLess (S[i]'(by omega)).1.e.name.toList S[j].1.e.name.toList=decide (Lib.compareBytes (S[i]'(by omega)).1.e.name.data.toList S[j].1.e.name.data.toList<0) from zgM _ _,decide_eq_true_eq];have h3:¬ SE.cf S[j] (S[i]'(by omega))<0:=by simpa using h1
 have h4:SE.cf S[j] (S[i]'(by omega))=- SE.cf (S[i]'(by omega)) S[j]:=Ds.cmp_neg _ _;have h5:SE.cf (S[i]'(by omega)) S[j]≠0:=fun e=>h2 (Ds.bl_inj ((Ds.cmp_zero _ _).1 e))
 show SE.cf (S[i]'(by omega)) S[j]<0
 omega
attribute [local go_sem ↓] zaV zcu zaW zaz za1
attribute [local go_sem] zav zap zal zaI zaJ zae zaq zai zaw zao zas zan zaa zaj zaf zaA zax zak zag zar zaG zaC zaE
theorem zmo(a0:Option Addr)(n0 c0:Nat)(F:Nat->Oz)(pt:ByteArray)(w:World)(hm:MaxL w)(hT:Tab w)(hL:OS w a0 n0 F)(h:¬ ((n0<=16∧∀ k,k<n0->few6X (F k))∧Ds.pat (Ds.bl pt)=true)) :
  Calls Tryz.prog 5 #[.slice a0 n0 c0,.string pt] w fun r w'=>r=.returned (.bool true)∧Below w.heap.size w w':=by
 have HAW:=lh (fun W (b:Below w.heap.size w W)=>aw36 W (hm.below b) (hT.below b));have HF:=lh (fun W (b:Below w.heap.size w W)=>zdp a0 n0 c0 F W (hL.below b));have HVP:=lh (fun W (b:Below w.heap.size w W)=>zeJ pt W (hm.below b));have HN:=lh h;clear hm hT hL h;cases hp:Ds.pat (Ds.bl pt)
 · rw[hp] at HVP;clear hp;go_enter Tryz.func5,Tryz.ntmps5
   go_wp2_with (first
    | (go_at_call 7;(with_reducible refine (HAW.out _ (Below.refl _ _)).mono ?_);rintro _ w1 ⟨rfl,hb⟩;have B1:=lh hb;clear hb)
    | (go_at_call 8;(refine (HF.out _ B1.out).mono ?_);rintro _ w2 ⟨bb,rfl,hf,hb⟩;have B2:=lh (bt B1.out hb);clear hb hf;cases bb)
    | (go_at_call 17;(refine (HVP.out _ B2.out).mono ?_);rintro _ w3 ⟨rfl,hb⟩;have B2:=lh (bt B2.out hb);clear hb))
   all_goals
    go_ret
    exact⟨rfl,B2.out⟩
 · have HN2:=lh (fun q=>HN.out ⟨q,hp⟩);clear hp;go_enter Tryz.func5,Tryz.ntmps5
   go_wp2_with (first
    | (go_at_call 7;(with_reducible refine (HAW.out _ (Below.refl _ _)).mono ?_);rintro _ w1 ⟨rfl,hb⟩;have B1:=lh hb;clear hb)
    | (go_at_call 8;(refine (HF.out _ B1.out).mono ?_);rintro _ w2 ⟨bb,rfl,hf,hb⟩;have B2:=lh (bt B1.out hb);have HFF:=lh hf;clear hb hf;cases bb;rotate_left 1;exact absurd (HFF.out rfl) HN2.out))
   go_ret
   exact⟨rfl,B2.out⟩
theorem zkH(a0:Option Addr)(n0 c0:Nat)(F:Nat->Oz)(Z:Nat->Zo)(pt:ByteArray)(w:World)(hm:MaxL w)(hT:Tab w)(hL:OS w a0 n0 F)(hO:OL w a0 n0 Z)(hn:n0<=16)(hp:Ds.pat (Ds.bl pt)=true) :
  Calls Tryz.prog 5 #[.slice a0 n0 c0,.string pt] w fun r w'=>r=.returned (.bool true)∧Below w.heap.size w w':=by
 have HAW:=lh (fun W (b:Below w.heap.size w W)=>aw36 W (hm.below b) (hT.below b));have HM:=lh (fun W (b:Below w.heap.size w W)=>And.intro (hm.below b) (hT.below b));have HF:=lh (fun W (b:Below w.heap.size w W)=>zdp a0 n0 c0 F W (hL.below b));have HVP:=lh (fun W (b:Below w.heap.size w W)=>zeJ pt W (hm.below b));rw[hp] at HVP;have HMT:=lh (fun n W (b:Below w.heap.size w W)=>zjx pt n W (hm.below b));have HRU:=lh (fun W (b:Below w.heap.size w W)=>run36b a0 n0 c0 Z W (by omega) (hm.below b) (hT.below b) (hO.below b));have hinv:=zha Z n0;have hlen:=zdi Z n0;obtain⟨-,hdk⟩:=zdM Z n0;generalize zcW Z n0=D at HRU hinv hlen hdk;have HNEW:=lh (fun sv most W (b:Below w.heap.size w W) hr hso=>zuq sv D pt most W (hm.below b) (hT.below b) hr hso hinv (by omega) (fun y hy=>Nat.le_trans (hdk y hy) (by decide)) hp);have HIN:=lh hinv;have hmm:=@run_makeMap Tryz.prog;clear hm hT hL hO hinv hdk hp;go_enter Tryz.func5,Tryz.ntmps5
 go_wp2_with (first
  | (go_at_call 7;(with_reducible refine (HAW.out _ (Below.refl _ _)).mono ?_);rintro _ w1 ⟨rfl,hb⟩;have B1:=lh hb;clear hb)
  | (go_at_call 8;(refine (HF.out _ B1.out).mono ?_);rintro _ w2 ⟨bb,rfl,-,hb⟩;have B2:=lh (bt B1.out hb);clear hb;cases bb)
  | (go_at_call 17;(refine (HVP.out _ B2.out).mono ?_);rintro _ w3 ⟨rfl,hb⟩;have B2:=lh (bt B2.out hb);clear hb)
  | (go_at_call 9;(refine (HRU.out _ B2.out).mono ?_);rintro _ w4 ⟨rv,rfl,hr,ho,hb⟩;obtain⟨va,vc,rfl,-⟩:=_root_.id hr;have B4:=lh (bt B2.out hb);have R4:=lh hr;have O4:=lh ho;clear hr ho hb))
 · go_ret
   exact⟨rfl,B2.out⟩
 have K4:=lh (show NM (w4.alloc (.map #[] 0)) w4.heap.size (zen (D.take 0) pt) from NM.made w4);have BM:=lh (zab w4 (.map #[] 0));have zM:w4.heap.size<(w4.alloc (.map #[] 0)).heap.size:=by simp
 obtain⟨mb,hmb⟩:∃ mb,w4.heap.size=mb:=⟨_,rfl⟩;generalize hW6:w4.alloc (.map #[] 0)=w6 at K4 BM zM ⊢;rw[hmb] at K4 zM ⊢;go_loopw [32] (fun i wr=>∃ k:Nat,k<=D.length∧i=.int .i64 k∧Hid (NM wr mb (zen (D.take k) pt))∧Hid (Below w4.heap.size w4 wr)∧mb<wr.heap.size) (fun i _=>D.length - (intOf i).toNat)
 case atStart=>exact⟨0,Nat.zero_le _,rfl,K4,BM,zM⟩
 case round =>
  obtain⟨k,hk,rfl,HK,HBR,hz⟩:=hrel;by_cases hlt:k<D.length
  · obtain⟨va',vc',ev,-,hc⟩:=R4.out.below HBR.out;injection ev with ev1 ev2 ev3
    subst ev1 ev3;obtain⟨vb,vo,rfl,hb,hcell⟩:=hc (by omega);obtain⟨p0,p1,p2⟩:=hcell k hlt;obtain⟨y,hy,ey⟩:=HIN.out.mem (List.getElem_mem hlt);have hsn:=zlJ (pt:=pt) hlt (y:=y) (by rw[show zaS D[k].2.1 D[k].2.2=(y,0) by rw[ey];exact za3 y hy.1]);generalize D[k]=xx at p0 p1 p2 hy ey;obtain⟨ci,xk,xr⟩:=xx;dsimp only at p0 p1 p2 hy ey;have e2:(ci,xk,xr)=(ci,zaT y.1.kind y.1.name,zcF y):=ey;injection e2 with _ e3
    injection e3 with e4 e5
    have hdec:zc6 (Ds.bl xr)=some y:=by rw[e5];exact ztr y hy.1
    have HD:=lh (fun W (b:Below w.heap.size w W)=>zdn xr y W (HM.out W b).1 (HM.out W b).2 hdec);have j1:(0:Int)<=(k:Int):=by omega
    have j2:(k:Int)<(D.length:Int):=by omega
    have hmt:=HMT.out y.1.name;clear hcell hc ey e4 e5 hdec hy;by_cases k2:y.1.kind<=2
    rotate_left
    · have t0:decide (y.1.kind<=2)=false:=decide_eq_false k2;rw[if_neg (fun q=>k2 q.1),List.append_nil] at hsn;have HSN:=lh hsn;clear hsn k2 hmt;go_wp2_with (go_at_call 12;(refine (HD.out _ (bt (bt B4.out HBR.out) (zab wr _))).mono ?_);rintro _ w8 ⟨a1,c1,a2,c2,rfl,hI,hGs,hb8,-,-⟩;have hone:=zau y.1 (.slice a1 y.2.1.length c1) (.slice a2 y.2.2.length c2) rfl rfl;have bA:=zab w8 (.cells (y.1.vals (.slice a1 y.2.1.length c1) (.slice a2 y.2.2.length c2)) 40);have B9:=lh (bt (bt (zab wr _) hb8) bA);have N0:=zah (zai w8 (y.1.vals (.slice a1 y.2.1.length c1) (.slice a2 y.2.2.length c2)) 40 (0,0)) 0 _ (zaC _ _ _);clear hI hGs hb8 bA)
      go_roundw
      case rel=>exact⟨k+1,by omega,by go_num,lh (by rw[HSN.out];exact HK.out.block (B9.out.block mb hz)),lh (bt HBR.out B9.out),Nat.lt_of_lt_of_le hz B9.out.size⟩
      case measure=>simp [intOf];omega
    have t0:decide (y.1.kind<=2)=true:=decide_eq_true k2;cases hma:Ds.match_ (Ds.bl pt) (Ds.bl y.1.name)
    · rw[if_neg (fun q=>by rw[hma] at q;cases q.2),List.append_nil] at hsn;rw[hma] at hmt;have HSN:=lh hsn;have HM2:=lh hmt;clear hsn k2 hmt hma
      go_wp2_with (first
       | (go_at_call 12;(refine (HD.out _ (bt (bt B4.out HBR.out) (zab wr _))).mono ?_);rintro _ w8 ⟨a1,c1,a2,c2,rfl,hI,hGs,hb8,-,-⟩;have hone:=zau y.1 (.slice a1 y.2.1.length c1) (.slice a2 y.2.2.length c2) rfl rfl;have bA:=zab w8 (.cells (y.1.vals (.slice a1 y.2.1.length c1) (.slice a2 y.2.2.length c2)) 40);have B9:=lh (bt (bt (zab wr _) hb8) bA);have N0:=zah (zai w8 (y.1.vals (.slice a1 y.2.1.length c1) (.slice a2 y.2.2.length c2)) 40 (0,0)) 0 _ (zaC _ _ _);have N1:=zah (zai w8 (y.1.vals (.slice a1 y.2.1.length c1) (.slice a2 y.2.2.length c2)) 40 (0,0)) 1 _ (zaE _ _ _);clear hI hGs hb8 bA)
       | (go_at_call 18;(refine (HM2.out _ (bt (bt B4.out HBR.out) B9.out)).mono ?_);rintro _ w10 ⟨rfl,hb10⟩;have B10:=lh (bt B9.out hb10);clear hb10))
      go_roundw
      case rel=>exact⟨k+1,by omega,by go_num,lh (by rw[HSN.out];exact HK.out.block (B10.out.block mb hz)),lh (bt HBR.out B10.out),Nat.lt_of_lt_of_le hz B10.out.size⟩
      case measure=>simp [intOf];omega
    · rw[if_pos ⟨k2,hma⟩] at hsn;rw[hma] at hmt;have HSN:=lh hsn;have HM2:=lh hmt;have HNW:=lh (zob HIN.out hsn);clear hsn k2 hmt hma
      go_wp2_with (first
       | (go_at_call 12;(refine (HD.out _ (bt (bt B4.out HBR.out) (zab wr _))).mono ?_);rintro _ w8 ⟨a1,c1,a2,c2,rfl,hI,hGs,hb8,-,-⟩;have hone:=zau y.1 (.slice a1 y.2.1.length c1) (.slice a2 y.2.2.length c2) rfl rfl;have bA:=zab w8 (.cells (y.1.vals (.slice a1 y.2.1.length c1) (.slice a2 y.2.2.length c2)) 40);have B9:=lh (bt (bt (zab wr _) hb8) bA);have R9:=zai w8 (y.1.vals (.slice a1 y.2.1.length c1) (.slice a2 y.2.2.length c2)) 40 (0,0);have N0:=zah R9 0 _ (zaC _ _ _);have N1:=zah R9 1 _ (zaE _ _ _);clear hI hGs hb8 bA)
       | (go_at_call 18;(refine (HM2.out _ (bt (bt B4.out HBR.out) B9.out)).mono ?_);rintro _ w10 ⟨rfl,hb10⟩;have B10:=lh (bt B9.out hb10);have M1:=zah (zaB hb10 R9 (by rw[zaa];decide)) 1 _ (zaE _ _ _);clear hb10)
       | (at_mapUpdate;refine mk_n.wmu _ rfl (.tmp 55) (.tmp 57) (.const (.bool true)) rfl mb (esN (zen (D.take k) pt)) y.1.name (.bool true) rfl rfl rfl (HK.out.block (B10.out.block mb hz)) ?_;intro w11 hk11 G11 hs11;have K11:=lh (show NM w11 mb (zen (D.take (k+1)) pt) by unfold NM;rw[HSN.out,<-zru _ _ HNW.out];exact hk11);have B11:=lh ((HBR.out.trans (B10.out.mono HBR.out.size)).trans (zaU G11 (by omega) (Nat.le_trans HBR.out.size B10.out.size)));have z11:=Nat.lt_of_lt_of_le (Nat.lt_of_lt_of_le hz B10.out.size) G11.size;clear hk11 G11 hs11))
      go_roundw
      case rel=>exact⟨k+1,by omega,by go_num,K11,B11,z11⟩
      case measure=>simp [intOf];omega
  obtain rfl:k=D.length:=by omega
  have hpm:=ziT HIN.out pt;have hpw:=zoW (zum HIN.out (pt:=pt));have hle:=zjA D pt;have hkk:=HK.out;rw[List.take_length] at hkk;have hA1:=HNEW.out (.slice va D.length vc) ((zen D pt).length:Int);have hA2:=HNEW.out (.slice va D.length vc) ((zen D pt).length - 1:Int);have hxl:=hpm.length_eq;rw[show mlA D pt ((zen D pt).length:Int)=(mX D pt,0) by unfold mlA;rw[if_neg (by omega),if_neg (by omega)]] at hA1;dsimp only at hA1;have HPM:=lh hpm;generalize mX D pt=X at hA1 hpw hxl HPM;have B6:=lh (bt B4.out HBR.out);have R6:=lh (R4.out.below HBR.out);have O6:=lh (fun q hq=>Nat.lt_of_lt_of_le (O4.out q hq) HBR.out.size)
  have e2:mlA D pt ((zen D pt).length - 1:Int)=if (zen D pt).length=0 then ([],1) else ([],8):=by
   unfold mlA;by_cases q:(zen D pt).length=0
   · rw[if_pos (by omega),if_pos q]
   · rw[if_neg (by omega),if_pos (by have:=(ziT HIN.out pt).length_eq;omega),if_neg q]
  rw[e2] at hA2;generalize hE:zen D pt=E at hkk hA1 hA2 hxl HPM hle;obtain⟨nn,hnn⟩:∃ nn,E.length=nn:=⟨_,rfl⟩;rw[hnn] at hA1 hA2 hxl hle;have HKN:=lh hkk;have HA1:=lh hA1;have HA2:=lh hA2;have HPW:=lh hpw;have HXL:=lh hxl;have HNN:=lh hnn;have kr:∀ (W:World),W.heap[mb]?=wr.heap[mb]?->(Builtin.len_ #[53] 3 #[.map (some mb)]).run Tryz.prog W=.ok (.int .i64 (nn:Int)) W:=fun W e=>by rw[<-HNN.out];exact (HKN.out.block e).len
  have HKR:=lh kr;clear hpm hpw hkk hA1 hA2 hxl hE e2 hnn kr HK K4 BM hW6 hlt;obtain⟨w5,hw5⟩:∃ w5,w5=wr:=⟨_,rfl⟩;subst hw5;have hM0:=HKR.out (w5.alloc (.cells #[.slice va D.length vc,.int .i64 0,.int .i64 0,.int .i64 0] 68)) (heap_alloc_old _ _ hz)
  go_wp2_with (first
   | (go_at_call 11;(with_reducible refine (sh36 _ _ _ _).mono ?_);rintro _ _ ⟨rfl,rfl⟩)
   | (go_at_call 19;(refine (HA1.out w5 B6.out R6.out O6.out).mono ?_);rintro _ w7 ⟨hv,rfl,hse,hb7⟩;obtain⟨S,a7,c7,hvv,hSl,hSp,hSs,hSc⟩:=hse;rw[HXL.out] at hvv hSl hSc;subst hvv;have B7:=lh hb7;have HSp:=lh hSp;have HSs:=lh hSs;have HSc:=lh hSc;have HSl:=lh hSl;have hM7:=HKR.out w7 (hb7.block mb hz);clear hb7 hSp hSs hSc hSl))
  have HNS:Hid ((S.map fun x=>x.1.e.name).Nodup):=lh (by
   have h1:=HSp.out.map (fun e:En=>e.name);rw[List.map_map,List.map_map] at h1;exact h1.nodup_iff.2 HPW.out)
  have HIN2:Hid (∀ j (h:j<S.length),∃ z∈E,z.1.name=S[j].1.e.name):=lh (fun j h=>by
   have h1:S[j].1.e∈X.map (fun y=>y.1):=HSp.out.mem_iff.1 (List.mem_map.2 ⟨S[j],List.getElem_mem h,rfl⟩);obtain⟨z,hz,e⟩:=List.mem_map.1 h1;exact⟨z,HPM.out.mem_iff.1 hz,by rw[e]⟩)
  clear hM0;go_loopw [80] (fun i wr=>∃ j:Nat,j<=nn∧i=.int .i64 j∧Hid (Below w7.heap.size w7 wr)) (fun i _=>nn - (intOf i).toNat)
  case atStart=>exact⟨0,Nat.zero_le _,rfl,lh (Below.refl _ _)⟩
  case round =>
   obtain⟨j,hj,rfl,HB2⟩:=hrel;have hlS:=HSl.out;by_cases hlt:j<nn
   rotate_left
   · obtain rfl:j=nn:=by omega
     have B8:=lh (bt B7.out HB2.out);have HX2:=HA2.out wr (bt B6.out B8.out) (R6.out.below B8.out) (fun q hq=>Nat.lt_of_lt_of_le (O6.out q hq) B8.out.size);have hz8:mb<wr.heap.size:=Nat.lt_of_lt_of_le hz B8.out.size;have hM8:=HKR.out (wr.alloc (.cells #[.slice va D.length vc,.int .i64 0,.int .i64 0,.int .i64 0] 68)) ((heap_alloc_old _ _ hz8).trans (B8.out.block mb hz));have c1:(0:Int)<=(j:Int):=by omega
     have c2:(j:Int)<100:=by omega
     clear hlt hlS;by_cases hn0:j=0
     · rw[if_pos hn0] at HX2;have t1:((j:Int)==0)=true:=beq_iff_eq.2 (by omega);have HX3:=lh HX2;clear HX2 hn0
       go_wp2_with (first
        | (go_at_call 11;(with_reducible refine (sh36 _ _ _ _).mono ?_);rintro _ _ ⟨rfl,rfl⟩)
        | (go_at_call 19;(refine HX3.out.mono ?_);rintro _ w9 ⟨hv,rfl,⟨-,a9,c9,rfl,-⟩,hb9⟩;have B9:=lh (bt B8.out hb9);have hM9:=HKR.out w9 (B9.out.block mb hz);clear hb9))
       go_ret
       exact⟨rfl,bt B6.out B9.out⟩
     · rw[if_neg hn0] at HX2;have t1:((j:Int)==0)=false:=beq_eq_false_iff_ne.2 (by omega);have t2:decide (0<(j:Int))=true:=decide_eq_true (by omega);have t3:decide (0<j)=true:=decide_eq_true (by omega);have t4:0<j:=by omega
       have t5:j≠0:=by omega
       have HX3:=lh HX2;clear HX2 hn0
       go_wp2_with (first
        | (go_at_call 11;(with_reducible refine (sh36 _ _ _ _).mono ?_);rintro _ _ ⟨rfl,rfl⟩)
        | (go_at_call 19;(refine HX3.out.mono ?_);rintro _ w9 ⟨hv,rfl,⟨-,a9,c9,rfl,-⟩,hb9⟩;have B9:=lh (bt B8.out hb9);have hM9:=HKR.out w9 (B9.out.block mb hz);clear hb9))
       go_ret
       exact⟨rfl,bt B6.out B9.out⟩
   obtain⟨g,rfl,hg7,hcell⟩:=HSc.out (by omega);have hjS:j<S.length:=by omega
   have hmid:mid wr g (j*33)=SE.val S[j]:=by
    exact zjY (zaa _ _ _) (fun i u hu=>(HB2.out.cell (p:=⟨g,j*33+i,none⟩) hg7).trans (hcell j hjS i u hu))
   have z33:(mid wr g (j*33)).size=33:=by rw[hmid];exact zaa _ _ _
   have hone:zaM (SE.val S[j]).toList=true:=zau _ _ _ rfl rfl;have hzS:(SE.val S[j]).size=33:=zaa _ _ _;have j1:(0:Int)<=(j:Int):=by omega
   have j2:(j:Int)<(nn:Int):=by omega
   have bA:=zab wr (.cells (SE.val S[j]) 40);have B9:=lh (bt HB2.out bA);have hR9:=zai wr (SE.val S[j]) 40 (0,0);have N1:(wr.alloc (.cells (SE.val S[j]) 40)).cell? ⟨wr.heap.size,1,none⟩=some (.string S[j].1.e.name):=zah hR9 1 _ (zaE _ _ _);have hlk:=fun n=>((((HKN.out.block (B7.out.block mb hz)).block (B9.out.block mb (Nat.lt_of_lt_of_le hz B7.out.size))).block (w':=(wr.alloc (.cells (SE.val S[j]) 40)).drewN n) rfl).look S[j].1.e.name (HIN2.out j hjS))
   by_cases hj0:j=0
   · subst hj0;have HCL:=lh hcell;clear hcell hR9 hlt;generalize hSE:SE.val S[0]=xs at hmid hone hzS N1 hlk B9 bA;generalize S[0].1.e.name=nm at N1 hlk;go_upto_region 20 with fail
     generalize wr.alloc (.cells xs 40)=wB at N1 hlk B9 ⊢;go_quiet (fail)
     go_wp2_with fail
     go_roundw
     case rel=>exact⟨0+1,by omega,by go_num,lh (bt B9.out (bdr _ _ _))⟩
     case measure=>simp [intOf];omega
   · obtain⟨i,rfl⟩:∃ i,j=i+1:=⟨j - 1,by omega⟩;have hiS:i<S.length:=by omega
     have P1:=(B9.out.cell (p:=⟨g,i*33+1,none⟩) hg7).trans (hcell i hiS 1 _ (zaE _ _ _));have hle:=zsf S HSs.out HNS.out i (i+1) hjS (by omega);have tg:decide (0<((i+1:Nat):Int))=true:=decide_eq_true (by omega);have hsub:((i+1:Nat):Int) - 1=(i:Int):=by omega
     have HCL:=lh hcell;clear hcell hR9 hlt hj0;generalize hSE:SE.val S[i+1]=xs at hmid hone hzS N1 hlk B9 bA P1;generalize S[i+1].1.e.name=nm at N1 hlk hle;generalize S[i].1.e.name=nm0 at P1 hle;go_upto_region 20 with fail
     generalize wr.alloc (.cells xs 40)=wB at N1 hlk B9 P1 ⊢;go_quiet (fail)
     go_wp2_with fail
     go_roundw
     case rel=>exact⟨i+1+1,by omega,by go_num,lh (bt B9.out (bdr _ _ _))⟩
     case measure=>simp [intOf];omega
theorem zuf(a0:Option Addr)(n0 c0:Nat)(F:Nat->Oz)(pt:ByteArray)(w:World)(hm:MaxL w)(hT:Tab w)(hL:OS w a0 n0 F) :
  Calls Tryz.prog 5 #[.slice a0 n0 c0,.string pt] w fun r w'=>r=.returned (.bool true)∧Below w.heap.size w w':=by
 by_cases h:(n0<=16∧∀ k,k<n0->few6X (F k))∧Ds.pat (Ds.bl pt)=true
 · obtain⟨Z,hO⟩:=hL.ol fun k hk=>by
    obtain⟨q1,q2,q3,q4,q5⟩:=h.1.2 k hk;exact⟨by omega,by omega,q1,q5⟩
   exact zkH a0 n0 c0 F Z pt w hm hT hL hO h.1.1 h.2
 · exact zmo a0 n0 c0 F pt w hm hT hL h
end
end Go.Proofs.YtefcmdmfgdcpmaaGreatDoor
section
namespace Go.Proofs.YtefcmdmfgdcpmaaGreatDoor.masterLists
open Go.ChangeShapes Go.WideShapes Go.ChangeAt Go.RowKit Go.Proofs.YtefcmdmfgdcpmaaGreatDoor
open Go.ChangeMaps (open_string)
set_option maxRecDepth 100000 in
theorem contract(H:Type)(enc:TypeId × Value->H)(W:World)(base:Nat)(args:Array Value)(ds gs:List (DataW H))(before:List MemPlace)(hval:∀ (j:Nat) t v,Tryz.f5.params[j]?=some t->args[j]?=some v->Value.okWide Tryz.prog W .any base t v)(hW:DataW.Whole enc Tryz.prog Tryz.f5.params.toList Rows.masterListsSpec.vars false W args.toList ds gs before)(hL:laidMetH Tryz.prog Rows.masterListsRow.laid W)(hS:W.ShapedOpen Tryz.prog) :
  Calls Tryz.prog 5 args W fun e W'=>∃ v,e=.returned v∧Rows.masterListsSpec.post enc Tryz.prog Tryz.f5 false true false false W args v W':=by
 have hW':=hW;have hlt:∀ x∈before,x.block<W.heap.size:=fun x hx=>by simpa using hW'.lt x hx
 obtain⟨p,q,hA0,hV,rfl,hfz,hnd⟩:=hW;have hA:DataW.TrodAll enc Tryz.prog W 0 (fun _=>true) true Tryz.f5.params.toList args.toList ds p:=hA0;have hK:=hA;rw[Tryz.params5] at hA hval;obtain⟨v0,vs0,d0,ds0,p0,q0,hargs,rfl,rfl,h0,r0⟩:=trodAll_cons hA;obtain⟨v1,vs1,d1,ds1,p1,q1,rfl,rfl,rfl,h1,r1⟩:=trodAll_cons r0;obtain⟨rfl,rfl,rfl⟩:=trodAll_nil r1;obtain rfl:args=#[v0,v1]:=by cases args;simp_all
 obtain⟨rfl,rfl⟩:=trodVars_none hV;obtain⟨a0,n0,c0,F0,rfl,o0⟩:=zgU (hval 0 22 v0 rfl rfl) h0;have hs1:=hval 1 9 v1 rfl rfl;obtain⟨s1,rfl⟩:=okWide_string Tryz.underlying9 hs1;rw[MakeChecks.laidMetH_plain _ _ _ (by kernel_rfl)] at hL;refine (zuf a0 n0 c0 F0 s1 W (zmK hS) (znt hL) o0).mono fun e W' ⟨he,hb⟩=>?_
 subst he;exact⟨_,rfl,_,_,_,[],_,[],hW',trodAll_cons_mk (shut_bool Tryz.underlying4 _) trodAll_mk0,zeo hb (by rw[Tryz.params5];kernel_rfl) hK (fun x hx=>hlt x (by simpa using hx)),rfl,hb.frame _,fun h=>by cases h⟩
theorem laid_met(os:Os):laidMetH Tryz.prog Rows.masterListsRow.laid ((World.laidAll Tryz.prog os Rows.masterListsRow.laid).forCall (fun _ _=>0) ⟨#[],#[(.slice none 0 0:Value),(.string ⟨#[]⟩:Value)],[]⟩).memory:=by
 rw[MakeChecks.laidMetH_plain _ _ _ (by kernel_rfl)];exact laidMet_laidAll _ (by kernel_rfl) (by kernel_rfl)
theorem reads(os:Os){H:Type}(enc:TypeId × Value->H):∃ places,DataW.whole enc Tryz.prog ((World.laidAll Tryz.prog os Rows.masterListsRow.laid).forCall (fun _ _=>0) ⟨#[],#[(.slice none 0 0:Value),(.string ⟨#[]⟩:Value)],[]⟩).memory Tryz.f5.params.toList Rows.masterListsSpec.vars false #[(.slice none 0 0:Value),(.string ⟨#[]⟩:Value)].toList 8=some ([.nil,.lit (.string [])],[],places) :=
 ⟨[],by kernel_rfl⟩
set_option maxRecDepth 100000 in
theorem lifted(os:Os)(started:os.Started)(H:Type)(enc:TypeId × Value->H)(F:Stop.Interp) :
  ReturnsInHanded {} Tryz.checked os 5 .any ((OpenSpec.ofChange Rows.masterListsSpec).preRow enc Tryz.prog Tryz.f5 Rows.masterListsRow.domain false Rows.masterListsRow.laid) (((OpenSpec.ofChange Rows.masterListsSpec).at F).post enc Tryz.prog Tryz.f5 false true false false):=by
 obtain⟨places,hx⟩:=reads os enc
 refine returnsInHanded_of_row (C:=Tryz.checked) (s:=OpenSpec.ofChange Rows.masterListsSpec) ownk started (by kernel_rfl) Tryz.func5
  (zdO (enc:=enc) (C:=Tryz.checked) false #[(.slice none 0 0:Value),(.string ⟨#[]⟩:Value)] (World.shaped_of_ZipB (by kernel_rfl) (by kernel_rfl)) (by kernel_rfl)
    (OpenSpec.preRow_of_cond 8 hx (by kernel_rfl) (fun k hk=>by cases hk) (by kernel_rfl) (laid_met os))) ?_
 intro W base args ds gs before hval hW _ _ _ hL hS _;exact contract H enc W base args ds gs before hval hW hL hS
theorem said:Rows.MasterListsSaid :=
 OpenClaim.holds_of_cond 5 Tryz.f5 rfl rfl rfl rfl rfl rfl rfl ⟨rfl,rfl,rfl,rfl,rfl⟩ rfl rfl rfl rfl rfl (by kernel_rfl) Tryz.func5 joined_masterLists
  (of_decide_eq_true (by kernel_rfl)) (by unfold Func.isWrapper;first|(rw[if_pos (by decide +kernel)];kernel_rfl)|(rw[if_neg (by decide +kernel)];exact⟨rfl,rfl⟩))
  (fun os started H enc _ F=>by rw[OpenClaim.pre_eq_preRow];exact lifted os started H enc F)
theorem plain(f:FuncId)(fn:Func)(hf:Tryz.pinned.checked.prog.funcNamed Rows.masterListsRow.func=some f)(hfn:Tryz.pinned.checked.prog.funcs[f]?=some fn) :
  false=Tryz.pinned.checked.prog.looks []∧∀ (j:Nat) t,fn.params[j]?=some t->Tryz.pinned.checked.prog.wantsStandIn t=false:=by
 obtain rfl:f=5:=Option.some.inj ((show Tryz.prog.funcNamed Rows.masterListsRow.func=some 5 by kernel_rfl).symm.trans hf) |>.symm
 obtain rfl:fn=Tryz.f5:=(Option.some.inj (Tryz.func5.symm.trans hfn)).symm;refine⟨by kernel_rfl,fun j t ht=>?_⟩
 rw[Tryz.params5] at ht;have hm:=Array.mem_of_getElem? ht;have ha:(#[22,9]:Array TypeId).all (fun t=>!Tryz.prog.wantsStandIn t)=true:=by kernel_rfl
 have:=(Array.all_eq_true_iff_forall_mem.1 ha) t hm;exact (show Tryz.prog.wantsStandIn t=false by simpa using this)
theorem card:Rows.MasterListsCardSaid :=
 Claim7.holds_tied_plain_at .later [] _ _ _ _ said (fun _ h=>by cases h) (by kernel_rfl) (fun _ h=>by cases h) masterLists_row_tie rfl ⟨rfl,rfl⟩ (by kernel_rfl) rfl plain (by kernel_rfl)
end Go.Proofs.YtefcmdmfgdcpmaaGreatDoor.masterLists
end
