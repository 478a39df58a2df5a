/- Contracts of package entry: Valid at an alias, at a catalog's entry. -/
import Derived.Test.YtkafnmbldpofdaaGreatDoorVaA
import Derived.Test.YtkafnmbldpofdaaGreatDoorRdA
import Derived.Test.YtkafnmbldpofdaaGreatDoorEn
import Derived.Test.YtkafnmbldpofdaaGreatDoorDsW
import Derived.Test.YtkafnmbldpofdaaGreatDoorBoA
import Derived.Test.YtkafnmbldpofdaaGreatDoorFoC
import Derived.Test.YtkafnmbldpofdaaGreatDoorDsA
import Derived.Shelf.Abstract
section
namespace Go.Proofs.YtkafnmbldpofdaaGreatDoor
open Go.RowKit
set_option maxHeartbeats 800000
set_option maxRecDepth 4000
attribute [local go_sem] zay zaz zbj zbe zbz zaS za9 zbB zba
namespace Vp
def nameA(s:List UInt8):Bool:=Ds.name s&&!Ds.gen s
def ali(e:En):Bool:=Ds.name (Ds.bl e.target)&&!(e.target.toList==e.name.toList)
def nameC(s:List UInt8):Bool:=Ds.name s&&decide ((Ds.pieces s).length<=2)
def cat(e:En):Bool:=rng 1 15 [e.cat]
end Vp
theorem znt(s:ByteArray)(w:World)(hs:s.size<=1000)(hm:MaxL w) :
  Calls Tryz.prog 184 #[.string s] w fun r w'=>r=.returned (.bool (Vp.nameA (Ds.bl s)))∧Below w.heap.size w w':=by
 have h1:=fun W (h:MaxL W)=>zd0 s W hs h
 have h2:=fun W (h:MaxL W)=>zbX s W h
 unfold Vp.nameA
 generalize Ds.gen (Ds.bl s)=y at h1 ⊢
 generalize Ds.name (Ds.bl s)=x at h2 ⊢
 have HS:=lh h1
 have HV:=lh h2
 clear h1 h2
 cases x
 all_goals
  go_enter Tryz.func184,Tryz.ntmps184
  go_wp2_with (first|(go_at_call 53;(with_reducible refine (HS.out _ hm).mono ?_);rintro _ w1 ⟨rfl,B⟩)|(go_at_call 62;(with_reducible refine (HV.out _ (hm.below B)).mono ?_);rintro _ w2 ⟨rfl,hb⟩;have B:=bt B hb;clear hb))
  go_ret
  exact⟨rfl,B⟩
theorem znm(e:En)(al gr:Value)(w:World)(hm:MaxL w) :
  Calls Tryz.prog 186 #[.agg (e.vals al gr)] w fun r w'=>r=.returned (.bool (Vp.ali e))∧Below w.heap.size w w':=by
 have h2:=fun W (h:MaxL W)=>zbX e.target W h
 unfold Vp.ali
 generalize Ds.name (Ds.bl e.target)=x at h2 ⊢
 have q:(e.target.toList != e.name.toList)=!(e.target.toList==e.name.toList):=rfl
 have HV:=lh h2
 clear h2
 cases x
 · clear q
   go_enter Tryz.func186,Tryz.ntmps186
   go_wp2_with (go_at_call 62;(with_reducible refine (HV.out _ (hm.below (by exact za4))).mono ?_);rintro _ w2 ⟨rfl,hb⟩;have B:=((Below.refl w.heap.size w).alloc (Nat.le_refl _) _).trans (hb.mono (by simp));clear hb)
   go_ret
   exact⟨rfl,B⟩
 · rw[Bool.true_and]
   cases hc:(e.target.toList==e.name.toList)
   all_goals
    rw[hc] at q
    go_enter Tryz.func186,Tryz.ntmps186
    go_wp2_with (go_at_call 62;(with_reducible refine (HV.out _ (hm.below (by exact za4))).mono ?_);rintro _ w2 ⟨rfl,hb⟩;have R:=zae hb (zai w _ _ _) (by simp [zab]);have c29:=zaa R 29 _ (za9 e al gr);have c1:=zaa R 1 _ (zaz e al gr);have B:=((Below.refl w.heap.size w).alloc (Nat.le_refl _) _).trans (hb.mono (by simp));clear hb)
    go_ret
    exact⟨rfl,B⟩
theorem zl7(s:ByteArray)(w:World)(hm:MaxL w) :
  Calls Tryz.prog 187 #[.string s] w fun r w'=>r=.returned (.bool (Vp.nameC (Ds.bl s)))∧Below w.heap.size w w':=by
 have h2:=fun W (h:MaxL W)=>zbX s W h
 have hc:∀ W,Calls Tryz.prog 188 #[.string s,.string ⟨#[46]⟩] W fun e w'=>e=.returned (.int .i64 (Lib.countByte s.data.toList 46))∧w'=W:=fun W=>Tryz.strings_Count_one s 46 W
 have hp:decide ((Ds.pieces (Ds.bl s)).length<=2)=decide (Lib.countByte s.data.toList 46<2):=by
  rw[Ds.pieces_len,Bool.eq_iff_iff,decide_eq_true_eq,decide_eq_true_eq]
  unfold Lib.countByte Ds.bl
  omega
 unfold Vp.nameC
 rw[hp]
 generalize Ds.name (Ds.bl s)=x at h2 ⊢
 generalize Lib.countByte s.data.toList 46=k at hc ⊢
 have HV:=lh h2
 have HC:=lh hc
 clear h2 hc hp
 cases x
 · go_enter Tryz.func187,Tryz.ntmps187
   go_wp2_with (go_at_call 62;(with_reducible refine (HV.out _ hm).mono ?_);rintro _ w2 ⟨rfl,B⟩)
   go_ret
   exact⟨rfl,B⟩
 · go_enter Tryz.func187,Tryz.ntmps187
   go_wp2_with (first|(go_at_call 62;(with_reducible refine (HV.out _ hm).mono ?_);rintro _ w2 ⟨rfl,B⟩)|(go_at_call 188;(with_reducible refine (HC.out _).mono ?_);rintro _ w3 ⟨rfl,rfl⟩))
   go_ret
   exact⟨zal (by rw[Bool.true_and,Bool.eq_iff_iff,decide_eq_true_eq,decide_eq_true_eq];omega),B⟩
theorem zsH(e:En)(al gr:Value)(w:World) :
  Calls Tryz.prog 191 #[.agg (e.vals al gr)] w fun r w'=>r=.returned (.bool (Vp.cat e))∧Below w.heap.size w w':=by
 have h1:=fun W b h=>zcJ 1 15 e.cat b W h
 unfold Vp.cat
 generalize Vp.rng 1 15 [e.cat]=x at h1 ⊢
 go_enter Tryz.func191,Tryz.ntmps191
 go_wp2_with ((with_reducible refine (h1 _ _ (by simp [go_sem])).mono ?_);rintro _ w' ⟨rfl,rfl⟩)
 go_ret
 exact⟨rfl,by exact za4⟩
end Go.Proofs.YtkafnmbldpofdaaGreatDoor
end
namespace Go.Proofs.YtkafnmbldpofdaaGreatDoor
section
open Go.RowKit
set_option maxHeartbeats 800000
set_option maxRecDepth 4000
theorem zdR:zdy 124:=enters_of Tryz.func124 (by kernel_rfl) rfl
theorem zkP:zdy 177:=enters_of Tryz.func177 (by kernel_rfl) rfl
theorem zn6:zdy 181:=enters_of Tryz.func181 (by kernel_rfl) rfl
def zcR(e:En):List UInt8:=(encs [e.lim.toNat,e.last.toNat]++[tb e.em])++(Wi.enc e.owner.size++Ds.bl e.owner)
def zdK(e:En):En:={ En.zero with kind:=e.kind,name:=e.name,lim:=e.lim,last:=e.last,em:=e.em,owner:=e.owner }
theorem zma(s:List UInt8)(h:Vp.word s=true):s.length<=31:=by
 unfold Vp.word Ds.name at h
 simp only[Bool.and_eq_true,decide_eq_true_eq] at h
 omega
theorem zgb(s:List UInt8)(h:Vp.own s=true):s.length<=31:=by
 unfold Vp.own at h
 rw[Bool.or_eq_true] at h
 rcases h with h|h
 · rw[List.isEmpty_iff] at h;subst h;simp
 · exact zma s h
theorem rng1(lo hi n:Int)(h:Vp.rng lo hi [n]=true):lo<=n∧n<=hi:=by
 simpa [Vp.rng] using h
theorem zcf(n:Nat)(h:n<=1099511627776):clip n=n:=by unfold clip;rw[if_neg (by omega)]
theorem znQ(e:En)(h:Vp.grp e=true):zcr ({ En.zero with kind:=e.kind,name:=e.name }:En) (zcR e,0)=(zdK e,([],0)):=by
 unfold Vp.grp at h
 simp only[Bool.and_eq_true] at h
 obtain⟨⟨h1,h2⟩,h3⟩:=h
 have r1:=rng1 _ _ _ h1
 have r2:=rng1 _ _ _ h2
 have r3:=zgb _ h3
 have e1:zcR e=Wi.enc e.lim.toNat++(Wi.enc e.last.toNat++(tb e.em::(Wi.enc (Ds.bl e.owner).length++(Ds.bl e.owner++[])))):=by
  unfold zcR encs encs encs;rw[Ds.bl_length];simp
 unfold zcr zdK
 rw[e1]
 simp only
 rw[Rd.num_enc _ _ (by omega)]
 simp only
 rw[Rd.num_enc _ _ (by omega)]
 simp only
 rw[show tb e.em=(if e.em then 1 else 0) from rfl,Rd.boo_tb]
 simp only
 rw[Rd.txt_enc 200 _ _ (by omega) (by omega)]
 simp only
 rw[zcf _ (by omega),zcf _ (by omega),Ds.mk_bl,Int.toNat_of_nonneg (by omega),Int.toNat_of_nonneg (by omega)]
theorem ziB(e:En)(al gr:Value)(w:World)(h:Vp.grp e=true):Writes w 177 (e.vals al gr) (zcR e):=by
 unfold Vp.grp at h
 simp only[Bool.and_eq_true] at h
 obtain⟨⟨h1,h2⟩,h3⟩:=h
 have r1:=rng1 _ _ _ h1
 have r2:=rng1 _ _ _ h2
 have r3:=zgb _ h3
 rw[Ds.bl_length] at r3
 intro W c g _ _ _ hW
 have:=zmr c g [] e al gr e.lim.toNat e.last.toNat W hW (by omega) (by omega) (by omega) (by omega) (by omega) (by simp)
 rw[List.nil_append] at this
 exact this
theorem zmu(e:En)(w:World)(h:Vp.grp e=true):Reads w 177 (zcR e) (zcells e.kind e.name) ([],0) (fun _ _ cs=>cs=(zdK e).vals (.slice none 0 0) (.slice none 0 0)):=by
 have hl:(zcR e).length<=1000:=by
  unfold Vp.grp at h
  simp only[Bool.and_eq_true] at h
  obtain⟨⟨h1,h2⟩,h3⟩:=h
  have r1:=rng1 _ _ _ h1
  have r2:=rng1 _ _ _ h2
  have r3:=zgb _ h3
  rw[Ds.bl_length] at r3
  have b1:=zfw e.lim.toNat e.last.toNat (by omega) (by omega)
  have b2:=za3 e.owner.size (by omega)
  unfold zcR
  simp only[List.length_append,List.length_singleton,Ds.bl_length]
  omega
 intro W c rb g _ _ _ _ hR
 refine (zjb c rb g (zcR e,0) _ _ _ W hR hl).mono ?_
 rintro r w' ⟨rfl,hR',hG⟩
 rw[znQ e h] at hR'
 exact⟨rfl,hG,_,hR',zab _ _ _,zav _ _ _ rfl rfl,rfl⟩
def okG(e:En)(l2:List Int)(g2:List Gr):Bool:=Ds.group (Ds.bl e.name)&&Vp.grp e&&zcc (zdK e) e [] l2 [] g2
theorem znF(e:En)(al gr:Value)(l2:List Int)(g2:List Gr)(w:World)(hk:e.kind=1)(hm:MaxL w)(h1:IS w al l2)(h2:GS w gr g2) :
  Calls Tryz.prog 49 #[.agg (e.vals al gr)] w fun r w'=>r=.returned (.bool (okG e l2 g2))∧Below w.heap.size w w':=by
 have hf:Instr.findNow (.int .i64) (.int .i64 e.kind) fe5.toList 0=some (some (1,.agg (zb3 (71:Nat) 124 177 181))):=by rw[hk];rfl
 have hn:=fun W (b:Below w.heap.size w W)=>zeW e.name W (hm.below b)
 have hv:=fun W (b:Below w.heap.size w W)=>znh e al gr W (hm.below b)
 unfold okG
 cases hx:Ds.group (Ds.bl e.name)
 · rw[hx] at hn
   exact zfm 71 _ _ _ 1 e al gr w zdR hf hn
 · rw[hx] at hn
   cases hy:Vp.grp e
   · rw[hy] at hv
     exact zc7 71 _ _ _ 1 e al gr w zdR zn6 hf hn hv
   · rw[hy] at hv
     refine zfx 71 _ _ _ 1 e al gr (zcR e) ([],0) _ _ w zdR zn6 zkP hf hn hv (fun W _=>ziB e al gr W hy) (fun W _=>zmu e W hy) (fun _ _ _ _ h _ _=>h) rfl ?_
     rintro W b cs' hb rfl
     exact zfp (zdK e) e _ _ al gr [] l2 [] g2 W (IS.nil W) (h1.below hb) (GS.nil W) (h2.below hb)
end
section
open Go.RowKit
set_option maxHeartbeats 800000
set_option maxRecDepth 4000
theorem zkV:zdy 184:=enters_of Tryz.func184 (by kernel_rfl) rfl
theorem zkh:zdy 185:=enters_of Tryz.func185 (by kernel_rfl) rfl
theorem zoJ:zdy 186:=enters_of Tryz.func186 (by kernel_rfl) rfl
theorem zkw:zdy 187:=enters_of Tryz.func187 (by kernel_rfl) rfl
theorem zlQ:zdy 189:=enters_of Tryz.func189 (by kernel_rfl) rfl
theorem zoA:zdy 191:=enters_of Tryz.func191 (by kernel_rfl) rfl
def zdu(e:En):List UInt8:=Wi.enc e.target.size++Ds.bl e.target
def zdH(e:En):List UInt8:=Wi.enc e.cat.toNat
theorem zm4(s:List UInt8)(h:Ds.name s=true):s.length<=31:=by
 unfold Ds.name at h
 simp only[Bool.and_eq_true,decide_eq_true_eq] at h
 omega
theorem zdq(e:En)(h:Vp.ali e=true):e.target.size<=31:=by
 unfold Vp.ali at h
 rw[Bool.and_eq_true] at h
 have:=zm4 _ h.1
 rwa [Ds.bl_length] at this
theorem ziE(e:En)(r:List UInt8)(h:e.target.size<=200):zcZ ({ En.zero with kind:=e.kind,name:=e.name }:En) (zdu e++r,0)=(zeo e,(r,0)):=by
 have e1:zdu e++r=Wi.enc (Ds.bl e.target).length++(Ds.bl e.target++r):=by
  unfold zdu;rw[Ds.bl_length,List.append_assoc]
 unfold zcZ zeo
 rw[e1,Rd.txt_enc 200 _ _ (by rw[Ds.bl_length];omega) (by rw[Ds.bl_length];omega)]
 simp only
 rw[Ds.mk_bl]
theorem zjk(e:En)(al gr:Value)(w:World)(h:Vp.ali e=true):Writes w 185 (e.vals al gr) (zdu e):=by
 have hz:=zdq e h
 intro W c g _ _ _ hW
 have:=zmh c g [] e al gr W hW (by omega) (by simp)
 rw[List.nil_append] at this
 exact this
theorem zme(e:En)(w:World)(h:Vp.ali e=true):Reads w 185 (zdu e) (zcells e.kind e.name) ([],0) (fun _ _ cs=>cs=(zeo e).vals (.slice none 0 0) (.slice none 0 0)):=by
 have hz:=zdq e h
 have hl:(zdu e).length<=1000:=by
  have b2:=za3 e.target.size (by omega)
  unfold zdu
  simp only[List.length_append,Ds.bl_length]
  omega
 intro W c rb g _ _ _ _ hR
 refine (zjd c rb g (zdu e,0) _ _ _ W hR hl).mono ?_
 rintro r w' ⟨rfl,hR',hG⟩
 have hb:=ziE e [] (by omega)
 rw[List.append_nil] at hb
 rw[hb] at hR'
 exact⟨rfl,hG,_,hR',zab _ _ _,zav _ _ _ rfl rfl,rfl⟩
def okA(e:En)(l2:List Int)(g2:List Gr):Bool:=Vp.nameA (Ds.bl e.name)&&Vp.ali e&&zcc (zeo e) e [] l2 [] g2
theorem znI(e:En)(al gr:Value)(l2:List Int)(g2:List Gr)(w:World)(hk:e.kind=2)(hm:MaxL w)(hsz:e.name.size<=1000)(h1:IS w al l2)(h2:GS w gr g2) :
  Calls Tryz.prog 49 #[.agg (e.vals al gr)] w fun r w'=>r=.returned (.bool (okA e l2 g2))∧Below w.heap.size w w':=by
 have hf:Instr.findNow (.int .i64) (.int .i64 e.kind) fe5.toList 0=some (some (2,.agg (zb3 (65:Nat) 184 185 186))):=by rw[hk];rfl
 have hn:=fun W (b:Below w.heap.size w W)=>znt e.name W hsz (hm.below b)
 have hv:=fun W (b:Below w.heap.size w W)=>znm e al gr W (hm.below b)
 unfold okA
 cases hx:Vp.nameA (Ds.bl e.name)
 · rw[hx] at hn
   exact zfm 65 _ _ _ 2 e al gr w zkV hf hn
 · rw[hx] at hn
   cases hy:Vp.ali e
   · rw[hy] at hv
     exact zc7 65 _ _ _ 2 e al gr w zkV zoJ hf hn hv
   · rw[hy] at hv
     refine zfx 65 _ _ _ 2 e al gr (zdu e) ([],0) _ _ w zkV zoJ zkh hf hn hv (fun W _=>zjk e al gr W hy) (fun W _=>zme e W hy) (fun _ _ _ _ h _ _=>h) rfl ?_
     rintro W b cs' hb rfl
     exact zfp (zeo e) e _ _ al gr [] l2 [] g2 W (IS.nil W) (h1.below hb) (GS.nil W) (h2.below hb)
theorem ziL(e:En)(r:List UInt8)(h:Vp.cat e=true):zf4 ({ En.zero with kind:=e.kind,name:=e.name }:En) (zdH e++r,0)=(zeY e,(r,0)):=by
 have r1:=rng1 _ _ _ h
 unfold zf4 zeY zdH
 rw[Rd.num_enc _ _ (by omega)]
 simp only
 rw[zcf _ (by omega),Int.toNat_of_nonneg (by omega)]
theorem zok(e:En)(al gr:Value)(w:World)(h:Vp.cat e=true):Writes w 189 (e.vals al gr) (zdH e):=by
 have r1:=rng1 _ _ _ h
 intro W c g _ _ _ hW
 have:=zsf c g [] e al gr e.cat.toNat W hW (by omega) (by omega) (by simp)
 rw[List.nil_append] at this
 exact this
theorem zsq(e:En)(w:World)(h:Vp.cat e=true):Reads w 189 (zdH e) (zcells e.kind e.name) ([],0) (fun _ _ cs=>cs=(zeY e).vals (.slice none 0 0) (.slice none 0 0)):=by
 have r1:=rng1 _ _ _ h
 have hl:(zdH e).length<=1000:=by
  have b2:=za3 e.cat.toNat (by omega)
  unfold zdH
  omega
 intro W c rb g _ _ _ _ hR
 refine (zoD c rb g (zdH e,0) _ _ _ W hR hl).mono ?_
 rintro r w' ⟨rfl,hR',hG⟩
 have hb:=ziL e [] h
 rw[List.append_nil] at hb
 rw[hb] at hR'
 exact⟨rfl,hG,_,hR',zab _ _ _,zav _ _ _ rfl rfl,rfl⟩
def okC(e:En)(l2:List Int)(g2:List Gr):Bool:=Vp.nameC (Ds.bl e.name)&&Vp.cat e&&zcc (zeY e) e [] l2 [] g2
theorem zmo(e:En)(al gr:Value)(l2:List Int)(g2:List Gr)(w:World)(hk:e.kind=3)(hm:MaxL w)(h1:IS w al l2)(h2:GS w gr g2) :
  Calls Tryz.prog 49 #[.agg (e.vals al gr)] w fun r w'=>r=.returned (.bool (okC e l2 g2))∧Below w.heap.size w w':=by
 have hf:Instr.findNow (.int .i64) (.int .i64 e.kind) fe5.toList 0=some (some (3,.agg (zb3 (67:Nat) 187 189 191))):=by rw[hk];rfl
 have hn:=fun W (b:Below w.heap.size w W)=>zl7 e.name W (hm.below b)
 have hv:=fun W (_:Below w.heap.size w W)=>zsH e al gr W
 unfold okC
 cases hx:Vp.nameC (Ds.bl e.name)
 · rw[hx] at hn
   exact zfm 67 _ _ _ 3 e al gr w zkw hf hn
 · rw[hx] at hn
   cases hy:Vp.cat e
   · rw[hy] at hv
     exact zc7 67 _ _ _ 3 e al gr w zkw zoA hf hn hv
   · rw[hy] at hv
     refine zfx 67 _ _ _ 3 e al gr (zdH e) ([],0) _ _ w zkw zoA zlQ hf hn hv (fun W _=>zok e al gr W hy) (fun W _=>zsq e W hy) (fun _ _ _ _ h _ _=>h) rfl ?_
     rintro W b cs' hb rfl
     exact zfp (zeY e) e _ _ al gr [] l2 [] g2 W (IS.nil W) (h1.below hb) (GS.nil W) (h2.below hb)
end
end Go.Proofs.YtkafnmbldpofdaaGreatDoor
