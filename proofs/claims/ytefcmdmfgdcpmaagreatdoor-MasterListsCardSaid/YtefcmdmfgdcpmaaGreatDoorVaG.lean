/- Catalogs. -/
import Derived.Test.YtefcmdmfgdcpmaaGreatDoorVaA
import Derived.Test.YtefcmdmfgdcpmaaGreatDoorDsW
import Derived.Test.YtefcmdmfgdcpmaaGreatDoorBoA
import Derived.Deep.AppendLies
set_option maxRecDepth 8000
set_option maxHeartbeats 1600000
section
namespace Go.Proofs.YtefcmdmfgdcpmaaGreatDoor
open Go.RowKit
attribute [local go_sem] zaC zaE zbX zbK zbL zbg zbb zbM zbs
namespace Vp
def nameA(s:List UInt8):Bool:=Ds.name s&&!Ds.gen s
def ali(e:En):Bool:=Ds.name (Ds.bl e.target)&&!(e.target.toList==e.name.toList)
def nameC(s:List UInt8):Bool:=Ds.name s&&decide ((Ds.pieces s).length<=2)
def cat(e:En):Bool:=rng 1 15 [e.cat]
end Vp
theorem zpy(s:ByteArray)(w:World)(hs:s.size<=1000)(hm:MaxL w) :
  Calls Tryz.prog 83 #[.string s] w fun r w'=>r=.returned (.bool (Vp.nameA (Ds.bl s)))∧Below w.heap.size w w':=by
 have h1:=fun W (h:MaxL W)=>zdW s W hs h
 have h2:=fun W (h:MaxL W)=>zbh s W h
 unfold Vp.nameA;generalize Ds.gen (Ds.bl s)=y at h1 ⊢;generalize Ds.name (Ds.bl s)=x at h2 ⊢;have HS:=lh h1;have HV:=lh h2;clear h1 h2;cases x
 all_goals
  go_enter Tryz.func83,Tryz.ntmps83
  go_wp2_with (first|(go_at_call 84;(with_reducible refine (HS.out _ hm).mono ?_);rintro _ w1 ⟨rfl,B⟩)|(go_at_call 34;(with_reducible refine (HV.out _ (hm.below B)).mono ?_);rintro _ w2 ⟨rfl,hb⟩;have B:=bt B hb;clear hb))
  go_ret
  exact⟨rfl,B⟩
theorem zpq(e:En)(al gr:Value)(w:World)(hm:MaxL w) :
  Calls Tryz.prog 86 #[.agg (e.vals al gr)] w fun r w'=>r=.returned (.bool (Vp.ali e))∧Below w.heap.size w w':=by
 have h2:=fun W (h:MaxL W)=>zbh e.target W h
 unfold Vp.ali;generalize Ds.name (Ds.bl e.target)=x at h2 ⊢;have q:(e.target.toList != e.name.toList)=!(e.target.toList==e.name.toList):=rfl;have HV:=lh h2;clear h2;cases x
 · clear q;go_enter Tryz.func86,Tryz.ntmps86
   go_wp2_with (go_at_call 34;(with_reducible refine (HV.out _ (hm.below (by exact zbo))).mono ?_);rintro _ w2 ⟨rfl,hb⟩;have B:=((Below.refl w.heap.size w).alloc (Nat.le_refl _) _).trans (hb.mono (by simp));clear hb)
   go_ret
   exact⟨rfl,B⟩
 · rw[Bool.true_and];cases hc:(e.target.toList==e.name.toList)
   all_goals
    rw[hc] at q;go_enter Tryz.func86,Tryz.ntmps86
    go_wp2_with (go_at_call 34;(with_reducible refine (HV.out _ (hm.below (by exact zbo))).mono ?_);rintro _ w2 ⟨rfl,hb⟩;have R:=zaB hb (zai w _ _ _) (by simp [zaa]);have c29:=zah R 29 _ (zbb e al gr);have c1:=zah R 1 _ (zaE e al gr);have B:=((Below.refl w.heap.size w).alloc (Nat.le_refl _) _).trans (hb.mono (by simp));clear hb)
    go_ret
    exact⟨rfl,B⟩
theorem zpz(s:ByteArray)(w:World)(hm:MaxL w) :
  Calls Tryz.prog 87 #[.string s] w fun r w'=>r=.returned (.bool (Vp.nameC (Ds.bl s)))∧Below w.heap.size w w':=by
 have h2:=fun W (h:MaxL W)=>zbh s W h
 have hc:∀ W,Calls Tryz.prog 88 #[.string s,.string ⟨#[46]⟩] W fun e w'=>e=.returned (.int .i64 (Lib.countByte s.data.toList 46))∧w'=W:=fun W=>Tryz.strings_Count_one s 46 W
 have hp:decide ((Ds.pieces (Ds.bl s)).length<=2)=decide (Lib.countByte s.data.toList 46<2):=by
  rw[Ds.pieces_len,Bool.eq_iff_iff,decide_eq_true_eq,decide_eq_true_eq];unfold Lib.countByte Ds.bl;omega
 unfold Vp.nameC;rw[hp];generalize Ds.name (Ds.bl s)=x at h2 ⊢;generalize Lib.countByte s.data.toList 46=k at hc ⊢;have HV:=lh h2;have HC:=lh hc;clear h2 hc hp;cases x
 · go_enter Tryz.func87,Tryz.ntmps87
   go_wp2_with (go_at_call 34;(with_reducible refine (HV.out _ hm).mono ?_);rintro _ w2 ⟨rfl,B⟩)
   go_ret
   exact⟨rfl,B⟩
 · go_enter Tryz.func87,Tryz.ntmps87
   go_wp2_with (first|(go_at_call 34;(with_reducible refine (HV.out _ hm).mono ?_);rintro _ w2 ⟨rfl,B⟩)|(go_at_call 88;(with_reducible refine (HC.out _).mono ?_);rintro _ w3 ⟨rfl,rfl⟩))
   go_ret
   exact⟨zaF (by rw[Bool.true_and,Bool.eq_iff_iff,decide_eq_true_eq,decide_eq_true_eq];omega),B⟩
theorem zu8(e:En)(al gr:Value)(w:World) :
  Calls Tryz.prog 91 #[.agg (e.vals al gr)] w fun r w'=>r=.returned (.bool (Vp.cat e))∧Below w.heap.size w w':=by
 have h1:=fun W b h=>zcV 1 15 e.cat b W h
 unfold Vp.cat;generalize Vp.rng 1 15 [e.cat]=x at h1 ⊢;go_enter Tryz.func91,Tryz.ntmps91
 go_wp2_with ((with_reducible refine (h1 _ _ (by simp [go_sem])).mono ?_);rintro _ w' ⟨rfl,rfl⟩)
 go_ret
 exact⟨rfl,by exact zbo⟩
end Go.Proofs.YtefcmdmfgdcpmaaGreatDoor
end
namespace Go.Proofs.YtefcmdmfgdcpmaaGreatDoor
section
open Go.RowKit
theorem zdF:zdv 75:=enters_of Tryz.func75 (by kernel_rfl) rfl
theorem zlK:zdv 76:=enters_of Tryz.func76 (by kernel_rfl) rfl
theorem zpV:zdv 80:=enters_of Tryz.func80 (by kernel_rfl) rfl
def zdc(e:En):List UInt8:=(encs [e.lim.toNat,e.last.toNat]++[tb e.em])++(Wi.enc e.owner.size++Ds.bl e.owner)
def zhX(e:En):En:={ En.zero with kind:=e.kind,name:=e.name,lim:=e.lim,last:=e.last,em:=e.em,owner:=e.owner }
theorem zpA(s:List UInt8)(h:Vp.word s=true):s.length<=31:=by
 unfold Vp.word Ds.name at h;simp only[Bool.and_eq_true,decide_eq_true_eq] at h
 omega
theorem zgV(s:List UInt8)(h:Vp.own s=true):s.length<=31:=by
 unfold Vp.own at h;rw[Bool.or_eq_true] at h;rcases h with h|h
 · rw[List.isEmpty_iff] at h;subst h;simp
 · exact zpA s h
theorem rng1(lo hi n:Int)(h:Vp.rng lo hi [n]=true):lo<=n∧n<=hi:=by
 simpa [Vp.rng] using h
theorem zcj(n:Nat)(h:n<=1099511627776):clip n=n:=by unfold clip;rw[if_neg (by omega)]
theorem zoZ(e:En)(h:Vp.grp e=true):zcx ({ En.zero with kind:=e.kind,name:=e.name }:En) (zdc e,0)=(zhX e,([],0)):=by
 unfold Vp.grp at h;simp only[Bool.and_eq_true] at h
 obtain⟨⟨h1,h2⟩,h3⟩:=h;have r1:=rng1 _ _ _ h1;have r2:=rng1 _ _ _ h2;have r3:=zgV _ h3
 have e1:zdc e=Wi.enc e.lim.toNat++(Wi.enc e.last.toNat++(tb e.em::(Wi.enc (Ds.bl e.owner).length++(Ds.bl e.owner++[])))):=by
  unfold zdc encs encs encs;rw[Ds.bl_length];simp
 unfold zcx zhX;rw[e1];simp only
 rw[Rd.num_enc _ _ (by omega)];simp only
 rw[Rd.num_enc _ _ (by omega)];simp only
 rw[show tb e.em=(if e.em then 1 else 0) from rfl,Rd.boo_tb];simp only
 rw[Rd.txt_enc 200 _ _ (by omega) (by omega)];simp only
 rw[zcj _ (by omega),zcj _ (by omega),Ds.mk_bl,Int.toNat_of_nonneg (by omega),Int.toNat_of_nonneg (by omega)]
theorem zko(e:En)(al gr:Value)(w:World)(h:Vp.grp e=true):Writes w 76 (e.vals al gr) (zdc e):=by
 unfold Vp.grp at h;simp only[Bool.and_eq_true] at h
 obtain⟨⟨h1,h2⟩,h3⟩:=h;have r1:=rng1 _ _ _ h1;have r2:=rng1 _ _ _ h2;have r3:=zgV _ h3;rw[Ds.bl_length] at r3;intro W c g _ _ _ hW;have:=zoi c g [] e al gr e.lim.toNat e.last.toNat W hW (by omega) (by omega) (by omega) (by omega) (by omega) (by simp);rw[List.nil_append] at this;exact this
theorem zo6(e:En)(w:World)(h:Vp.grp e=true):Reads w 76 (zdc e) (zcells e.kind e.name) ([],0) (fun _ _ cs=>cs=(zhX e).vals (.slice none 0 0) (.slice none 0 0)):=by
 have hl:(zdc e).length<=1000:=by
  unfold Vp.grp at h;simp only[Bool.and_eq_true] at h
  obtain⟨⟨h1,h2⟩,h3⟩:=h;have r1:=rng1 _ _ _ h1;have r2:=rng1 _ _ _ h2;have r3:=zgV _ h3;rw[Ds.bl_length] at r3;have b1:=zfk e.lim.toNat e.last.toNat (by omega) (by omega);have b2:=za5 e.owner.size (by omega);unfold zdc;simp only[List.length_append,List.length_singleton,Ds.bl_length]
  omega
 intro W c rb g _ _ _ _ hR;refine (zjJ c rb g (zdc e,0) _ _ _ W hR hl).mono ?_
 rintro r w' ⟨rfl,hR',hG⟩;rw[zoZ e h] at hR';exact⟨rfl,hG,_,hR',zaa _ _ _,zau _ _ _ rfl rfl,rfl⟩
def okG(e:En)(l2:List Int)(g2:List Gr):Bool:=Ds.group (Ds.bl e.name)&&Vp.grp e&&zeF (zhX e) e [] l2 [] g2
theorem zpu(e:En)(al gr:Value)(l2:List Int)(g2:List Gr)(w:World)(hk:e.kind=1)(hm:MaxL w)(h1:IS w al l2)(h2:GS w gr g2) :
  Calls Tryz.prog 98 #[.agg (e.vals al gr)] w fun r w'=>r=.returned (.bool (okG e l2 g2))∧Below w.heap.size w w':=by
 have hf:Instr.findNow (.int .i64) (.int .i64 e.kind) fe5.toList 0=some (some (1,.agg (zb5 (71:Nat) 75 76 80))):=by rw[hk];rfl
 have hn:=fun W (b:Below w.heap.size w W)=>ze0 e.name W (hm.below b)
 have hv:=fun W (b:Below w.heap.size w W)=>zpr e al gr W (hm.below b)
 unfold okG;cases hx:Ds.group (Ds.bl e.name)
 · rw[hx] at hn;exact zfJ 71 _ _ _ 1 e al gr w zdF hf hn
 · rw[hx] at hn;cases hy:Vp.grp e
   · rw[hy] at hv;exact zdk 71 _ _ _ 1 e al gr w zdF zpV hf hn hv
   · rw[hy] at hv;refine zfI 71 _ _ _ 1 e al gr (zdc e) ([],0) _ _ w zdF zpV zlK hf hn hv (fun W _=>zko e al gr W hy) (fun W _=>zo6 e W hy) (fun _ _ _ _ h _ _=>h) rfl ?_
     rintro W b cs' hb rfl;exact zer (zhX e) e _ _ al gr [] l2 [] g2 W (IS.nil W) (h1.below hb) (GS.nil W) (h2.below hb)
end
section
open Go.RowKit
theorem zlL:zdv 83:=enters_of Tryz.func83 (by kernel_rfl) rfl
theorem zlM:zdv 85:=enters_of Tryz.func85 (by kernel_rfl) rfl
theorem zpW:zdv 86:=enters_of Tryz.func86 (by kernel_rfl) rfl
theorem zlN:zdv 87:=enters_of Tryz.func87 (by kernel_rfl) rfl
theorem zlO:zdv 89:=enters_of Tryz.func89 (by kernel_rfl) rfl
theorem zpX:zdv 91:=enters_of Tryz.func91 (by kernel_rfl) rfl
def zdQ(e:En):List UInt8:=Wi.enc e.target.size++Ds.bl e.target
def zeS(e:En):List UInt8:=Wi.enc e.cat.toNat
theorem zoO(s:List UInt8)(h:Ds.name s=true):s.length<=31:=by
 unfold Ds.name at h;simp only[Bool.and_eq_true,decide_eq_true_eq] at h
 omega
theorem zdP(e:En)(h:Vp.ali e=true):e.target.size<=31:=by
 unfold Vp.ali at h;rw[Bool.and_eq_true] at h;have:=zoO _ h.1;rwa [Ds.bl_length] at this
theorem zkc(e:En)(r:List UInt8)(h:e.target.size<=200):zc1 ({ En.zero with kind:=e.kind,name:=e.name }:En) (zdQ e++r,0)=(zkR e,(r,0)):=by
 have e1:zdQ e++r=Wi.enc (Ds.bl e.target).length++(Ds.bl e.target++r):=by
  unfold zdQ;rw[Ds.bl_length,List.append_assoc]
 unfold zc1 zkR;rw[e1,Rd.txt_enc 200 _ _ (by rw[Ds.bl_length];omega) (by rw[Ds.bl_length];omega)];simp only
 rw[Ds.mk_bl]
theorem zkn(e:En)(al gr:Value)(w:World)(h:Vp.ali e=true):Writes w 85 (e.vals al gr) (zdQ e):=by
 have hz:=zdP e h;intro W c g _ _ _ hW;have:=zoh c g [] e al gr W hW (by omega) (by simp);rw[List.nil_append] at this;exact this
theorem zo5(e:En)(w:World)(h:Vp.ali e=true):Reads w 85 (zdQ e) (zcells e.kind e.name) ([],0) (fun _ _ cs=>cs=(zkR e).vals (.slice none 0 0) (.slice none 0 0)):=by
 have hz:=zdP e h
 have hl:(zdQ e).length<=1000:=by
  have b2:=za5 e.target.size (by omega);unfold zdQ;simp only[List.length_append,Ds.bl_length]
  omega
 intro W c rb g _ _ _ _ hR;refine (zjI c rb g (zdQ e,0) _ _ _ W hR hl).mono ?_
 rintro r w' ⟨rfl,hR',hG⟩;have hb:=zkc e [] (by omega);rw[List.append_nil] at hb;rw[hb] at hR';exact⟨rfl,hG,_,hR',zaa _ _ _,zau _ _ _ rfl rfl,rfl⟩
def okA(e:En)(l2:List Int)(g2:List Gr):Bool:=Vp.nameA (Ds.bl e.name)&&Vp.ali e&&zeF (zkR e) e [] l2 [] g2
theorem zpv(e:En)(al gr:Value)(l2:List Int)(g2:List Gr)(w:World)(hk:e.kind=2)(hm:MaxL w)(hsz:e.name.size<=1000)(h1:IS w al l2)(h2:GS w gr g2) :
  Calls Tryz.prog 98 #[.agg (e.vals al gr)] w fun r w'=>r=.returned (.bool (okA e l2 g2))∧Below w.heap.size w w':=by
 have hf:Instr.findNow (.int .i64) (.int .i64 e.kind) fe5.toList 0=some (some (2,.agg (zb5 (65:Nat) 83 85 86))):=by rw[hk];rfl
 have hn:=fun W (b:Below w.heap.size w W)=>zpy e.name W hsz (hm.below b)
 have hv:=fun W (b:Below w.heap.size w W)=>zpq e al gr W (hm.below b)
 unfold okA;cases hx:Vp.nameA (Ds.bl e.name)
 · rw[hx] at hn;exact zfJ 65 _ _ _ 2 e al gr w zlL hf hn
 · rw[hx] at hn;cases hy:Vp.ali e
   · rw[hy] at hv;exact zdk 65 _ _ _ 2 e al gr w zlL zpW hf hn hv
   · rw[hy] at hv;refine zfI 65 _ _ _ 2 e al gr (zdQ e) ([],0) _ _ w zlL zpW zlM hf hn hv (fun W _=>zkn e al gr W hy) (fun W _=>zo5 e W hy) (fun _ _ _ _ h _ _=>h) rfl ?_
     rintro W b cs' hb rfl;exact zer (zkR e) e _ _ al gr [] l2 [] g2 W (IS.nil W) (h1.below hb) (GS.nil W) (h2.below hb)
theorem zkd(e:En)(r:List UInt8)(h:Vp.cat e=true):zgY ({ En.zero with kind:=e.kind,name:=e.name }:En) (zeS e++r,0)=(zkS e,(r,0)):=by
 have r1:=rng1 _ _ _ h;unfold zgY zkS zeS;rw[Rd.num_enc _ _ (by omega)];simp only
 rw[zcj _ (by omega),Int.toNat_of_nonneg (by omega)]
theorem zqI(e:En)(al gr:Value)(w:World)(h:Vp.cat e=true):Writes w 89 (e.vals al gr) (zeS e):=by
 have r1:=rng1 _ _ _ h;intro W c g _ _ _ hW;have:=ztV c g [] e al gr e.cat.toNat W hW (by omega) (by omega) (by simp);rw[List.nil_append] at this;exact this
theorem zuD(e:En)(w:World)(h:Vp.cat e=true):Reads w 89 (zeS e) (zcells e.kind e.name) ([],0) (fun _ _ cs=>cs=(zkS e).vals (.slice none 0 0) (.slice none 0 0)):=by
 have r1:=rng1 _ _ _ h
 have hl:(zeS e).length<=1000:=by
  have b2:=za5 e.cat.toNat (by omega);unfold zeS;omega
 intro W c rb g _ _ _ _ hR;refine (zpY c rb g (zeS e,0) _ _ _ W hR hl).mono ?_
 rintro r w' ⟨rfl,hR',hG⟩;have hb:=zkd e [] h;rw[List.append_nil] at hb;rw[hb] at hR';exact⟨rfl,hG,_,hR',zaa _ _ _,zau _ _ _ rfl rfl,rfl⟩
def okC(e:En)(l2:List Int)(g2:List Gr):Bool:=Vp.nameC (Ds.bl e.name)&&Vp.cat e&&zeF (zkS e) e [] l2 [] g2
theorem zpw(e:En)(al gr:Value)(l2:List Int)(g2:List Gr)(w:World)(hk:e.kind=3)(hm:MaxL w)(h1:IS w al l2)(h2:GS w gr g2) :
  Calls Tryz.prog 98 #[.agg (e.vals al gr)] w fun r w'=>r=.returned (.bool (okC e l2 g2))∧Below w.heap.size w w':=by
 have hf:Instr.findNow (.int .i64) (.int .i64 e.kind) fe5.toList 0=some (some (3,.agg (zb5 (67:Nat) 87 89 91))):=by rw[hk];rfl
 have hn:=fun W (b:Below w.heap.size w W)=>zpz e.name W (hm.below b)
 have hv:=fun W (_:Below w.heap.size w W)=>zu8 e al gr W
 unfold okC;cases hx:Vp.nameC (Ds.bl e.name)
 · rw[hx] at hn;exact zfJ 67 _ _ _ 3 e al gr w zlN hf hn
 · rw[hx] at hn;cases hy:Vp.cat e
   · rw[hy] at hv;exact zdk 67 _ _ _ 3 e al gr w zlN zpX hf hn hv
   · rw[hy] at hv;refine zfI 67 _ _ _ 3 e al gr (zeS e) ([],0) _ _ w zlN zpX zlO hf hn hv (fun W _=>zqI e al gr W hy) (fun W _=>zuD e W hy) (fun _ _ _ _ h _ _=>h) rfl ?_
     rintro W b cs' hb rfl;exact zer (zkS e) e _ _ al gr [] l2 [] g2 W (IS.nil W) (h1.below hb) (GS.nil W) (h2.below hb)
end
end Go.Proofs.YtefcmdmfgdcpmaaGreatDoor
namespace Go.Proofs.YtefcmdmfgdcpmaaGreatDoor.Ge
def fits(b:Int):List Int->Int->Bool
 | [],m=>decide (b<=m)
 | n::r,m=>if n<=b then false else fits n r m
def at_(l:List Int)(m:Int)(i:Nat):Bool:=decide (1<=l.getD i 0)&&decide (l.getD i 0<=m)&&(decide (i=0) || decide (l.getD (i - 1) 0<l.getD i 0))
end Go.Proofs.YtefcmdmfgdcpmaaGreatDoor.Ge
namespace Go.Proofs.YtefcmdmfgdcpmaaGreatDoor.Ge
end Go.Proofs.YtefcmdmfgdcpmaaGreatDoor.Ge
namespace Go.Proofs.YtefcmdmfgdcpmaaGreatDoor
section
open Go.RowKit
theorem zp0:Tryz.prog.info? 3=some ((Tryz.prog.info? 3).getD default):=by kernel_rfl
theorem zlX:((Tryz.prog.info? 3).getD default).zero=some (.int .i64 0):=by kernel_rfl
theorem zlY:((Tryz.prog.info? 3).getD default).size=1:=by kernel_rfl
theorem zlZ:((Tryz.prog.info? 3).getD default).bytes=8:=by kernel_rfl
def iv(l:List Int):List Value:=l.map (Value.int .i64)
theorem zp6(l:List Int):∀ u∈iv l,u.oneCell'=true:=by
 intro u hu;obtain⟨x,_,rfl⟩:=List.mem_map.1 hu;rfl
theorem below1{w w1:World}{o:Obj}(hb:Below (w.alloc o).heap.size (w.alloc o) w1):Below w.heap.size w w1:=((Below.refl _ _).alloc (Nat.le_refl _) _).trans (hb.mono (by simp))
attribute [local go_sem ↓] zaV
attribute [local go_sem] zap zal zai zaw zao zas zan zaC zbK zaa
end
section
open Go.RowKit
def NW(w:World)(v:Value)(l:List Int):Prop :=
 ∃ a c,v=.slice a l.length c∧l.length<=c∧((a=none∧l=[]∧c=0)∨∃ b o,a=some ⟨b,o,none⟩∧b<w.heap.size∧∀ j (h:j<l.length),w.cell? ⟨b,o+j,none⟩=some (.int .i64 l[j]))
theorem NW.keep{w w':World}{v:Value}{l:List Int}(h:NW w v l)(hs:w.heap.size<=w'.heap.size)(k:∀ x,v.ownBlock=some x->x<w.heap.size->w'.heap[x]?=w.heap[x]?):NW w' v l:=by
 obtain⟨a,c,rfl,h1,h2⟩:=h;refine⟨a,c,rfl,h1,?_⟩
 rcases h2 with h2|⟨b,o,rfl,hb,hc⟩
 · exact .inl h2
 · exact .inr ⟨b,o,rfl,Nat.lt_of_lt_of_le hb hs,fun j hj=>(World.cell?_of_block (a:=⟨b,o+j,none⟩) (k b rfl hb)).trans (hc j hj)⟩
theorem NW.is{w:World}{v:Value}{l:List Int}(h:NW w v l)(hz:l.length<=1000000):IS w v l:=by
 obtain⟨a,c,rfl,h1,h2⟩:=h;refine⟨a,c,rfl,hz,fun h0=>?_⟩
 rcases h2 with ⟨_,rfl,_⟩|⟨b,o,rfl,hb,hc⟩
 · simp at h0
 · exact⟨b,o,rfl,hb,hc⟩
theorem NW.owns{w:World}{v:Value}{B e:Nat}{l:List Int}{n:Nat}(h:w.ownsRow B e 1 v n (iv l)):NW w v l∧n=l.length∧∀ x,v.ownBlock=some x->B<=x∧x<w.heap.size:=by
 obtain⟨hl,h⟩:=h;have hn:n=l.length:=by unfold iv at hl;rw[List.length_map] at hl;omega
 subst hn;rcases h with ⟨rfl,h0⟩|⟨g,cap,cur,rfl,hB,hg,hc,_,_,ht⟩
 · refine⟨⟨none,0,by rw[h0],by omega,.inl ⟨rfl,List.eq_nil_of_length_eq_zero h0,rfl⟩⟩,rfl,fun x hx=>by cases hx⟩
 · have hlt:g<w.heap.size:=by
    rcases Nat.lt_or_ge g w.heap.size with h|h
    · exact h
    · rw[Array.getElem?_eq_none h] at hg;cases hg
   refine⟨⟨_,cap,rfl,hc,.inr ⟨g,0,rfl,hlt,fun j hj=>?_⟩⟩,rfl,fun x hx=>by cases hx;exact⟨hB,hlt⟩⟩
   rw[Nat.zero_add,cell_of_row w g j cur e (0,0) hg];have:(cur.toList.take (l.length*1))[j]?=(iv l)[j]?:=by rw[ht]
   rw[List.getElem?_take_of_lt (by omega),Array.getElem?_toList] at this;rw[this];unfold iv;rw[List.getElem?_map,List.getElem?_eq_getElem hj];rfl
structure FI (w wr:World) (B nb kb:Nat) (cs:Array Value) (now gone:List Int) (nv gv:Value):Prop where
 hE:EB wr w.heap.size cs
 hR:Held wr (w.heap.size+1) 33
 hB:w.heap.size+2<=B
 hBs:B<=wr.heap.size
 hn:wr.cell? ⟨nb,0,none⟩=some nv
 hnf:wr.frozen? ⟨nb,0,none⟩=false
 hk:wr.cell? ⟨kb,0,none⟩=some gv
 hkf:wr.frozen? ⟨kb,0,none⟩=false
 hNB:B<=nb
 hKB:B<=kb
 hne:kb≠nb
 hnow:NW wr nv now
 hgone:wr.ownsRow B 3 1 gv gone.length (iv gone)
 s1:∀ x,nv.ownBlock=some x->B<=x∧x≠nb∧x≠kb∧gv.ownBlock≠some x
 s2:gv.ownBlock≠some nb∧gv.ownBlock≠some kb
 hw:Below w.heap.size w wr
theorem zbI{w:World}{a:Addr}{v:Value}{k:Nat}(h:k≠a.block):(w.setCell a v).heap[k]?=w.heap[k]?:=heap_setCell_other w a k v h
theorem zd7{w w':World}{B e n:Nat}{v:Value}{xs:List Value}(h:w.ownsRow B e 1 v n xs)(k:∀ x,v.ownBlock=some x->w'.heap[x]?=w.heap[x]?):w'.ownsRow B e 1 v n xs:=by
 refine⟨h.1,?_⟩
 rcases h.2 with h|⟨g,cap,cur,rfl,h2,h3,h4⟩
 · exact .inl h
 · exact .inr ⟨g,cap,cur,rfl,h2,(k g rfl).trans h3,h4⟩
theorem FI.set{w wr:World}{B nb kb:Nat}{cs:Array Value}{now gone:List Int}{nv gv:Value}(h:FI w wr B nb kb cs now gone nv gv)(o:Nat)(ho:o<cs.size)(v:Value) :
  FI w (wr.setCell ⟨w.heap.size,o,none⟩ v) B nb kb (cs.setIfInBounds o v) now gone nv gv:=by
 have hB:=h.hB;have kk:∀ x,x≠w.heap.size->(wr.setCell ⟨w.heap.size,o,none⟩ v).heap[x]?=wr.heap[x]?:=fun x hx=>zbI hx
 have n1:=h.hNB;have n2:=h.hKB;have hg:∀ x,gv.ownBlock=some x->B<=x:=fun x hx=>((NW.owns h.hgone).2.2 x hx).1
 refine⟨h.hE.set o ho v,h.hR.of_block (kk _ (by omega)),hB,by simpa using h.hBs,?_,by simpa using h.hnf,?_,by simpa using h.hkf,n1,n2,h.hne,h.hnow.keep (by simp) (fun x hx _=>kk x (by have:=(h.s1 x hx).1;omega)),zd7 h.hgone (fun x hx=>kk x (by have:=hg x hx;omega)),h.s1,h.s2,h.hw.setCell (Nat.le_refl _) _⟩
 · exact (World.cell?_of_block (a:=⟨nb,0,none⟩) (kk nb (by omega))).trans h.hn
 · exact (World.cell?_of_block (a:=⟨kb,0,none⟩) (kk kb (by omega))).trans h.hk
theorem FI.alloc{w wr:World}{B nb kb:Nat}{cs:Array Value}{now gone:List Int}{nv gv:Value}(h:FI w wr B nb kb cs now gone nv gv){w':World}(G:wr.grownBy w' none) :
  FI w w' B nb kb cs now gone nv gv:=by
 have kk:∀ x,x<wr.heap.size->w'.heap[x]?=wr.heap[x]?:=fun x hx=>G.block x hx (by simp)
 have l1:=World.block_lt_of_cell? wr _ h.hn;have l2:=World.block_lt_of_cell? wr _ h.hk;simp only at l1 l2
 have hB:=h.hB;have hBs:=h.hBs;have hg:∀ x,gv.ownBlock=some x->x<wr.heap.size:=fun x hx=>((NW.owns h.hgone).2.2 x hx).2
 exact⟨h.hE.of_block (kk _ (by omega)) G.size,h.hR.of_block (kk _ (by omega)),hB,Nat.le_trans hBs G.size,(World.cell?_of_block (a:=⟨nb,0,none⟩) (kk nb l1)).trans h.hn,(World.frozen?_of_block (a:=⟨nb,0,none⟩) (kk nb l1)).trans h.hnf,(World.cell?_of_block (a:=⟨kb,0,none⟩) (kk kb l2)).trans h.hk,(World.frozen?_of_block (a:=⟨kb,0,none⟩) (kk kb l2)).trans h.hkf,h.hNB,h.hKB,h.hne,h.hnow.keep G.size (fun x _ hx=>kk x hx),zd7 h.hgone (fun x hx=>kk x (hg x hx)),h.s1,h.s2,h.hw.trans ⟨G.os,G.tape,G.output,G.size,fun x hx=>kk x (by omega)⟩⟩
theorem FI.put{w wr:World}{B nb kb:Nat}{cs:Array Value}{now gone now':List Int}{nv gv nv':Value}(h:FI w wr B nb kb cs now gone nv gv)(hN:NW wr nv' now')(hs:∀ x,nv'.ownBlock=some x->B<=x∧x≠nb∧x≠kb∧gv.ownBlock≠some x) :
  FI w (wr.setCell ⟨nb,0,none⟩ nv') B nb kb cs now' gone nv' gv:=by
 have kk:∀ x,x≠nb->(wr.setCell ⟨nb,0,none⟩ nv').heap[x]?=wr.heap[x]?:=fun x hx=>zbI hx
 have hB:=h.hB;have hNB:=h.hNB;exact⟨h.hE.of_block (kk _ (by omega)) (by simp),h.hR.of_block (kk _ (by omega)),hB,by simpa using h.hBs,World.cell?_setCell_same' _ _ _ (by rw[h.hn];rfl),by simpa using h.hnf,(World.cell?_of_block (a:=⟨kb,0,none⟩) (kk kb h.hne)).trans h.hk,by simpa using h.hkf,hNB,h.hKB,h.hne,hN.keep (by simp) (fun x hx _=>kk x (hs x hx).2.1),zd7 h.hgone (fun x hx=>kk x (fun e=>h.s2.1 (e ▸ hx))),hs,h.s2,h.hw.setCell (by show w.heap.size<=nb;omega) _⟩
theorem FI.app{w wr w':World}{B nb kb:Nat}{cs:Array Value}{now gone:List Int}{nv gv nv':Value}{x:Int}(h:FI w wr B nb kb cs now gone nv gv)(hown:w'.ownsRow wr.heap.size 3 1 nv' (now.length+1) (iv now++iv [x]))(G:wr.grownBy w' none) :
  FI w (w'.setCell ⟨nb,0,none⟩ nv') B nb kb cs (now++[x]) gone nv' gv:=by
 have e:iv now++iv [x]=iv (now++[x]):=by unfold iv;rw[List.map_append]
 rw[e] at hown;obtain⟨h1,h2,h3⟩:=NW.owns hown;have l1:=World.block_lt_of_cell? wr _ h.hn;have l2:=World.block_lt_of_cell? wr _ h.hk;simp only at l1 l2
 have hg:∀ x,gv.ownBlock=some x->x<wr.heap.size:=fun x hx=>((NW.owns h.hgone).2.2 x hx).2
 exact (h.alloc G).put h1 (fun y hy=>by
  have:=h3 y hy;have:=h.hBs;exact⟨by omega,by omega,by omega,fun e=>by have:=hg y e;omega⟩)
end
section
open Go.RowKit
theorem zh9{P:Program}{fn:Func}{p u v:Tmp}{ty:TypeId}{d:TypeDesc}{n:Nat}(h:fn.results=#[.cell p ty,.tmp u,.tmp v])(hu:P.underlying ty=some d)(hd:(match d with|.struct _|.array _ _=>true|_=>false)=true)(hi:(P.info? ty).map (·.size)=some (n+1))(tmps:Array Value)(w:World)(g:Nat)(hp:tmps.getD p undef=.pointer (some ⟨g,0,none⟩))(hz:(row w g).size=n+1) :
  (results fn tmps).run P w=.ok (.tuple #[.agg (row w g),tmps.getD u undef,tmps.getD v undef]) w:=by
 have hl:=zb8 w g n ty d hu hd hi hz;have hp':tmps[p]?.getD undef=.pointer (some ⟨g,0,none⟩):=by simpa using hp
 simp only[results,h]
 simp [Result.andThen,hp',asAddr,hl]
def IB(base:Nat)(w:World)(v:Value)(l:List Int):Prop:=IS w v l∧∀ x,v.ownBlock=some x->base<=x
theorem IB.nil(base:Nat)(w:World):IB base w (.slice none 0 0) []:=⟨IS.nil w,fun _ h=>by cases h⟩
theorem IB.keep{base:Nat}{w w':World}{v:Value}{l:List Int}(h:IB base w v l)(hs:w.heap.size<=w'.heap.size)(k:∀ x,base<=x->x<w.heap.size->w'.heap[x]?=w.heap[x]?):IB base w' v l:=by
 obtain⟨⟨a,c,rfl,h1,h2⟩,h3⟩:=h;refine⟨⟨a,c,rfl,h1,fun h0=>?_⟩,h3⟩
 obtain⟨b,o,rfl,hb,hc⟩:=h2 h0;exact⟨b,o,rfl,Nat.lt_of_lt_of_le hb hs,fun j hj=>(World.cell?_of_block (a:=⟨b,o+j,none⟩) (k b (h3 b rfl) hb)).trans (hc j hj)⟩
theorem IB.mono{base base':Nat}{w:World}{v:Value}{l:List Int}(h:IB base w v l)(hb:base'<=base):IB base' w v l:=⟨h.1,fun x hx=>Nat.le_trans hb (h.2 x hx)⟩
def FoldR(F:Int × Int × List Int × List Int)(cs:Int->Array Value)(w:World)(r:Ending)(w':World):Prop :=
 ∃ v1 v2,r=.returned (.tuple #[.agg (if F.1=0 then cs F.2.1 else zcells 0 ⟨#[]⟩),v1,v2,.int .i64 F.1])∧IB w.heap.size w' v1 F.2.2.1∧IB w.heap.size w' v2 F.2.2.2∧Below w.heap.size w w'
theorem FoldR.bad{w w':World}{cs:Int->Array Value}{x:Int}{z:Array Value}(hx:x≠0)(hz:z=zcells 0 ⟨#[]⟩)(B:Below w.heap.size w w'):FoldR (x,0,[],[]) cs w (.returned (.tuple #[.agg z,.slice none 0 0,.slice none 0 0,.int .i64 x])) w' :=
 ⟨_,_,by rw[if_neg hx,hz],IB.nil _ _,IB.nil _ _,B⟩
attribute [local go_sem ↓] zaV zaW zaz
attribute [local go_sem] zav zap zal zae zaq zai zaw zao zas zan zaC zbX zbK zbL zaa zaj zaf zaA zax zak zag zar
end
end Go.Proofs.YtefcmdmfgdcpmaaGreatDoor
