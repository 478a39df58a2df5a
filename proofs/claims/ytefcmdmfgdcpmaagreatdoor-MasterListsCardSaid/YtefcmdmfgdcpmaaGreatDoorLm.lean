/- Catalogs. -/
import Derived.Test.YtefcmdmfgdcpmaaGreatDoorFrameEs
import Derived.Test.YtefcmdmfgdcpmaaGreatDoorPe
set_option maxRecDepth 100000
set_option maxHeartbeats 16000000
namespace Go.Proofs.YtefcmdmfgdcpmaaGreatDoor
section
open Go.RowKit
def zuB:ByteArray:=⟨#[80,65,89]⟩
def ptC:ByteArray:=⟨#[80,65,89,46,84,69,83,84]⟩
def pmC:ByteArray:=⟨#[80,65,89,46,77,65,83,84,69,82]⟩
def paC:ByteArray:=⟨#[80,65,89,46,84,69,83,84,46,65]⟩
def tpC:ByteArray:=⟨#[84,69,83,84,46,80,65,89]⟩
def d36:Fu:=({ En.zero with kind:=0,name:=paC,d0:=130 },[],[])
def Z36:Nat->Zo:=fun k=>if k=0 then (3,2,zFu,zuB) else if k=1 then (3,3,zFu,ptC) else (0,0,d36,⟨#[]⟩)
theorem zwi:(zcW Z36 3).length=3:=by decide +kernel
theorem z_w1:zaN (zcW Z36 3) pmC=(2,0):=by decide +kernel
theorem z_w2:zaN (zcW Z36 3) ptC=(3,0):=by decide +kernel
theorem z_w3:zaN (zcW Z36 3) tpC=(1,0):=by decide +kernel
theorem z_f:(zcC (zcW Z36 3) paC).1.1.d0=130∧(zcC (zcW Z36 3) paC).2=(3,0):=by decide +kernel
def R36:List Rw:=zcW Z36 3
theorem l36:(opv 3 2 En.zero (.slice none 0 0) (.slice none 0 0) zuB++opv 3 3 En.zero (.slice none 0 0) (.slice none 0 0) ptC)++opv 0 0 d36.1 (.slice none 0 0) (.slice none 0 0) ⟨#[]⟩=#[.int .i64 3,.int .i64 2,.int .i64 0,.string ⟨#[]⟩,.int .i64 0,.int .i64 0,.int .i64 0,.int .i64 0,.int .i64 0,.int .i64 0,.int .i64 0,.int .i64 0,.int .i64 0,.int .i64 0,.int .i64 0,.int .i64 0,.int .i64 0,.int .i64 0,.bool false,.int .i64 0,.string ⟨#[]⟩,.string ⟨#[]⟩,.int .i64 0,.int .i64 0,.bool false,.slice none 0 0,.int .i64 0,.int .i64 0,.int .i64 0,.bool false,.string ⟨#[]⟩,.string ⟨#[]⟩,.int .i64 0,.int .i64 0,.slice none 0 0,.string ⟨#[80,65,89]⟩,.int .i64 3,.int .i64 3,.int .i64 0,.string ⟨#[]⟩,.int .i64 0,.int .i64 0,.int .i64 0,.int .i64 0,.int .i64 0,.int .i64 0,.int .i64 0,.int .i64 0,.int .i64 0,.int .i64 0,.int .i64 0,.int .i64 0,.int .i64 0,.int .i64 0,.bool false,.int .i64 0,.string ⟨#[]⟩,.string ⟨#[]⟩,.int .i64 0,.int .i64 0,.bool false,.slice none 0 0,.int .i64 0,.int .i64 0,.int .i64 0,.bool false,.string ⟨#[]⟩,.string ⟨#[]⟩,.int .i64 0,.int .i64 0,.slice none 0 0,.string ⟨#[80,65,89,46,84,69,83,84]⟩,.int .i64 0,.int .i64 0,.int .i64 0,.string ⟨#[80,65,89,46,84,69,83,84,46,65]⟩,.int .i64 130,.int .i64 0,.int .i64 0,.int .i64 0,.int .i64 0,.int .i64 0,.int .i64 0,.int .i64 0,.int .i64 0,.int .i64 0,.int .i64 0,.int .i64 0,.int .i64 0,.int .i64 0,.bool false,.int .i64 0,.string ⟨#[]⟩,.string ⟨#[]⟩,.int .i64 0,.int .i64 0,.bool false,.slice none 0 0,.int .i64 0,.int .i64 0,.int .i64 0,.bool false,.string ⟨#[]⟩,.string ⟨#[]⟩,.int .i64 0,.int .i64 0,.slice none 0 0,.string ⟨#[]⟩]:=by
 unfold opv opc En.vals d36 zuB ptC paC En.zero;rfl
theorem ext3(a b c:Array Value)(h1:a.size=36)(h2:b.size=36)(h3:c.size=36):((a++b)++c).extract (0+0*36) (0+0*36+36)=a∧((a++b)++c).extract (0+1*36) (0+1*36+36)=b∧((a++b)++c).extract (0+2*36) (0+2*36+36)=c:=by
 refine⟨?_,?_,?_⟩
 all_goals
  apply Array.ext_getElem?
  intro i;simp only[Array.getElem?_extract,Array.getElem?_append,Array.size_append,h1,h2,h3]
  by_cases hi:i<36
  · simp [hi]
    try (repeat' split) <;> first|rfl|omega|(congr 1;omega)
  · rw[if_neg (by omega),Array.getElem?_eq_none (by omega)]
theorem ol36(w:World):OL (w.alloc (.cells (#[.int .i64 3,.int .i64 2,.int .i64 0,.string ⟨#[]⟩,.int .i64 0,.int .i64 0,.int .i64 0,.int .i64 0,.int .i64 0,.int .i64 0,.int .i64 0,.int .i64 0,.int .i64 0,.int .i64 0,.int .i64 0,.int .i64 0,.int .i64 0,.int .i64 0,.bool false,.int .i64 0,.string ⟨#[]⟩,.string ⟨#[]⟩,.int .i64 0,.int .i64 0,.bool false,.slice none 0 0,.int .i64 0,.int .i64 0,.int .i64 0,.bool false,.string ⟨#[]⟩,.string ⟨#[]⟩,.int .i64 0,.int .i64 0,.slice none 0 0,.string ⟨#[80,65,89]⟩,.int .i64 3,.int .i64 3,.int .i64 0,.string ⟨#[]⟩,.int .i64 0,.int .i64 0,.int .i64 0,.int .i64 0,.int .i64 0,.int .i64 0,.int .i64 0,.int .i64 0,.int .i64 0,.int .i64 0,.int .i64 0,.int .i64 0,.int .i64 0,.int .i64 0,.bool false,.int .i64 0,.string ⟨#[]⟩,.string ⟨#[]⟩,.int .i64 0,.int .i64 0,.bool false,.slice none 0 0,.int .i64 0,.int .i64 0,.int .i64 0,.bool false,.string ⟨#[]⟩,.string ⟨#[]⟩,.int .i64 0,.int .i64 0,.slice none 0 0,.string ⟨#[80,65,89,46,84,69,83,84]⟩,.int .i64 0,.int .i64 0,.int .i64 0,.string ⟨#[80,65,89,46,84,69,83,84,46,65]⟩,.int .i64 130,.int .i64 0,.int .i64 0,.int .i64 0,.int .i64 0,.int .i64 0,.int .i64 0,.int .i64 0,.int .i64 0,.int .i64 0,.int .i64 0,.int .i64 0,.int .i64 0,.int .i64 0,.bool false,.int .i64 0,.string ⟨#[]⟩,.string ⟨#[]⟩,.int .i64 0,.int .i64 0,.bool false,.slice none 0 0,.int .i64 0,.int .i64 0,.int .i64 0,.bool false,.string ⟨#[]⟩,.string ⟨#[]⟩,.int .i64 0,.int .i64 0,.slice none 0 0,.string ⟨#[]⟩]) 59)) (some ⟨w.heap.size,0,none⟩) 3 Z36:=by
 rw[<-l36];obtain⟨e0,e1,e2⟩:=ext3 (opv 3 2 En.zero (.slice none 0 0) (.slice none 0 0) zuB) (opv 3 3 En.zero (.slice none 0 0) (.slice none 0 0) ptC) (opv 0 0 d36.1 (.slice none 0 0) (.slice none 0 0) ⟨#[]⟩) (zbi _ _ _ _ _ _) (zbi _ _ _ _ _ _) (zbi _ _ _ _ _ _);intro k hk;have hl:w.heap.size<(w.alloc (.cells ((opv 3 2 En.zero (.slice none 0 0) (.slice none 0 0) zuB++opv 3 3 En.zero (.slice none 0 0) (.slice none 0 0) ptC)++opv 0 0 d36.1 (.slice none 0 0) (.slice none 0 0) ⟨#[]⟩) 59)).heap.size:=by simp
 refine⟨w.heap.size,0,.slice none 0 0,.slice none 0 0,rfl,hl,?_,?_,?_,?_,?_⟩
 · unfold zfX;rw[zai w _ 59 (0,0)]
   match k,hk with
   | 0,_=>exact e0
   | 1,_=>exact e1
   | 2,_=>exact e2
 all_goals
  match k,hk with
  | 0,_=>first|exact IS.nil _|exact GS.nil _|exact (by decide:(0:Nat)<=60)|exact (by decide:(3:Nat)<=60)
  | 1,_=>first|exact IS.nil _|exact GS.nil _|exact (by decide:(0:Nat)<=60)|exact (by decide:(8:Nat)<=60)
  | 2,_=>first|exact IS.nil _|exact GS.nil _|exact (by decide:(10:Nat)<=60)|exact (by decide:(0:Nat)<=60)
theorem ztw(w:World)(hm:MaxL w)(hT:Tab w):Calls Tryz.prog 9 #[.slice (some ⟨w.heap.size,0,none⟩) 3 3] (w.alloc (.cells (#[.int .i64 3,.int .i64 2,.int .i64 0,.string ⟨#[]⟩,.int .i64 0,.int .i64 0,.int .i64 0,.int .i64 0,.int .i64 0,.int .i64 0,.int .i64 0,.int .i64 0,.int .i64 0,.int .i64 0,.int .i64 0,.int .i64 0,.int .i64 0,.int .i64 0,.bool false,.int .i64 0,.string ⟨#[]⟩,.string ⟨#[]⟩,.int .i64 0,.int .i64 0,.bool false,.slice none 0 0,.int .i64 0,.int .i64 0,.int .i64 0,.bool false,.string ⟨#[]⟩,.string ⟨#[]⟩,.int .i64 0,.int .i64 0,.slice none 0 0,.string ⟨#[80,65,89]⟩,.int .i64 3,.int .i64 3,.int .i64 0,.string ⟨#[]⟩,.int .i64 0,.int .i64 0,.int .i64 0,.int .i64 0,.int .i64 0,.int .i64 0,.int .i64 0,.int .i64 0,.int .i64 0,.int .i64 0,.int .i64 0,.int .i64 0,.int .i64 0,.int .i64 0,.bool false,.int .i64 0,.string ⟨#[]⟩,.string ⟨#[]⟩,.int .i64 0,.int .i64 0,.bool false,.slice none 0 0,.int .i64 0,.int .i64 0,.int .i64 0,.bool false,.string ⟨#[]⟩,.string ⟨#[]⟩,.int .i64 0,.int .i64 0,.slice none 0 0,.string ⟨#[80,65,89,46,84,69,83,84]⟩,.int .i64 0,.int .i64 0,.int .i64 0,.string ⟨#[80,65,89,46,84,69,83,84,46,65]⟩,.int .i64 130,.int .i64 0,.int .i64 0,.int .i64 0,.int .i64 0,.int .i64 0,.int .i64 0,.int .i64 0,.int .i64 0,.int .i64 0,.int .i64 0,.int .i64 0,.int .i64 0,.int .i64 0,.bool false,.int .i64 0,.string ⟨#[]⟩,.string ⟨#[]⟩,.int .i64 0,.int .i64 0,.bool false,.slice none 0 0,.int .i64 0,.int .i64 0,.int .i64 0,.bool false,.string ⟨#[]⟩,.string ⟨#[]⟩,.int .i64 0,.int .i64 0,.slice none 0 0,.string ⟨#[]⟩]) 59)) fun r w'=>∃ a c,r=.returned (.slice a 3 c)∧RwS w' (.slice a 3 c) R36∧(∀ q,(Value.slice a 3 c).ownBlock=some q->q<w'.heap.size)∧Below w.heap.size w w':=by
 have hb:=zab w (.cells (#[.int .i64 3,.int .i64 2,.int .i64 0,.string ⟨#[]⟩,.int .i64 0,.int .i64 0,.int .i64 0,.int .i64 0,.int .i64 0,.int .i64 0,.int .i64 0,.int .i64 0,.int .i64 0,.int .i64 0,.int .i64 0,.int .i64 0,.int .i64 0,.int .i64 0,.bool false,.int .i64 0,.string ⟨#[]⟩,.string ⟨#[]⟩,.int .i64 0,.int .i64 0,.bool false,.slice none 0 0,.int .i64 0,.int .i64 0,.int .i64 0,.bool false,.string ⟨#[]⟩,.string ⟨#[]⟩,.int .i64 0,.int .i64 0,.slice none 0 0,.string ⟨#[80,65,89]⟩,.int .i64 3,.int .i64 3,.int .i64 0,.string ⟨#[]⟩,.int .i64 0,.int .i64 0,.int .i64 0,.int .i64 0,.int .i64 0,.int .i64 0,.int .i64 0,.int .i64 0,.int .i64 0,.int .i64 0,.int .i64 0,.int .i64 0,.int .i64 0,.int .i64 0,.bool false,.int .i64 0,.string ⟨#[]⟩,.string ⟨#[]⟩,.int .i64 0,.int .i64 0,.bool false,.slice none 0 0,.int .i64 0,.int .i64 0,.int .i64 0,.bool false,.string ⟨#[]⟩,.string ⟨#[]⟩,.int .i64 0,.int .i64 0,.slice none 0 0,.string ⟨#[80,65,89,46,84,69,83,84]⟩,.int .i64 0,.int .i64 0,.int .i64 0,.string ⟨#[80,65,89,46,84,69,83,84,46,65]⟩,.int .i64 130,.int .i64 0,.int .i64 0,.int .i64 0,.int .i64 0,.int .i64 0,.int .i64 0,.int .i64 0,.int .i64 0,.int .i64 0,.int .i64 0,.int .i64 0,.int .i64 0,.int .i64 0,.bool false,.int .i64 0,.string ⟨#[]⟩,.string ⟨#[]⟩,.int .i64 0,.int .i64 0,.bool false,.slice none 0 0,.int .i64 0,.int .i64 0,.int .i64 0,.bool false,.string ⟨#[]⟩,.string ⟨#[]⟩,.int .i64 0,.int .i64 0,.slice none 0 0,.string ⟨#[]⟩]) 59);refine (run36 _ 3 3 Z36 _ (by decide) (hm.below hb) (hT.below hb) (ol36 w)).mono ?_
 rintro _ w' ⟨v',rfl,hr,ho,hb2⟩;obtain⟨a,c,e,-⟩:=_root_.id hr;rw[zwi] at e;subst e;exact⟨a,c,rfl,hr,ho,bt hb hb2⟩
theorem zfM(sv:Value)(R:List Rw)(name:ByteArray)(g:Int × Int)(hg:zaN R name=g)(w:World)(hm:MaxL w)(hT:Tab w)(hr:RwS w sv R)(ho:∀ b,sv.ownBlock=some b->b<w.heap.size) :
  Calls Tryz.prog 13 #[.iface 31 (.pointer (some ⟨w.heap.size,0,none⟩)),.string name] (w.alloc (.cells #[sv,.int .i64 0,.int .i64 0,.int .i64 0] 68)) fun r w'=>r=.returned (.tuple #[.int .i64 g.1,.int .i64 g.2])∧RwS w' sv R∧Below w.heap.size w w':=by
 refine (ze6 w.heap.size sv R 0 0 0 name w _ hm hT (zb9 sv R w hr ho) (Int.le_refl _) (by decide) (.inr (Int.le_refl _))).mono ?_
 rintro _ w' ⟨rfl,hs,-⟩;rw[(zel R 0 0 0 name (Int.le_refl _) (Int.le_refl _)).1,hg];exact⟨rfl,hs.r,hs.b⟩
theorem zoc(sv:Value)(w:World)(hm:MaxL w)(hT:Tab w)(hr:RwS w sv R36)(ho:∀ b,sv.ownBlock=some b->b<w.heap.size) :
  Calls Tryz.prog 14 #[.iface 31 (.pointer (some ⟨w.heap.size,0,none⟩)),.string paC] (w.alloc (.cells #[sv,.int .i64 0,.int .i64 0,.int .i64 0] 68)) fun r w'=>∃ (x:Fu) (al gr:Value),r=.returned (.tuple #[.agg (x.1.vals al gr),.int .i64 3,.int .i64 0])∧x.1.d0=130∧IS w' al x.2.1∧GS w' gr x.2.2∧Below w.heap.size w w':=by
 refine (zmG w.heap.size sv R36 0 0 0 paC w _ hm hT (zb9 sv R36 w hr ho) (Int.le_refl _) (by decide) (.inr (Int.le_refl _))).mono ?_
 rintro _ w' ⟨⟨al,gr,rfl,h1,h2,-,-⟩,hs,-⟩;have e:=zhQ R36 0 0 0 paC (Int.le_refl _) (Int.le_refl _);rw[e] at h1 h2 ⊢;obtain⟨f1,f2⟩:=z_f;refine⟨(zcC R36 paC).1,al,gr,?_,f1,h1,h2,hs.b⟩
 rw[show (zcC R36 paC).2.1=3 from congrArg Prod.fst f2,show (zcC R36 paC).2.2=0 from congrArg Prod.snd f2]
attribute [local go_sem ↓] zaV zaz
attribute [local go_sem ↓ high] zaW
attribute [local go_sem] zav zap zal zaI zaJ zae zaq zai zaw zao zas zan zaa zaj zaf zaA zax zak zag zar zaG
theorem aw36(w:World)(hm:MaxL w)(hT:Tab w):Calls Tryz.prog 7 #[] w fun r w'=>r=.returned (.bool true)∧Below w.heap.size w w':=by
 have HRU:=lh (ztw w hm hT);have HW1:=lh (fun sv W (b:Below w.heap.size w W)=>zfM sv R36 pmC (2,0) z_w1 W (hm.below b) (hT.below b));have HW2:=lh (fun sv W (b:Below w.heap.size w W)=>zfM sv R36 ptC (3,0) z_w2 W (hm.below b) (hT.below b));have HW3:=lh (fun sv W (b:Below w.heap.size w W)=>zfM sv R36 tpC (1,0) z_w3 W (hm.below b) (hT.below b));have HFI:=lh (fun sv W (b:Below w.heap.size w W)=>zoc sv W (hm.below b) (hT.below b));unfold pmC at HW1;unfold ptC at HW2;unfold tpC at HW3;unfold paC at HFI;generalize R36=R at HRU HW1 HW2 HW3 HFI;clear hm hT;go_enter Tryz.func7,Tryz.ntmps7
 go_wp2_with (first
  | (go_at_call 9;(refine HRU.out.mono ?_);rintro _ w1 ⟨va,vc,rfl,hr,ho,hb⟩;have S1:=lh hr;have O1:=lh ho;have B1:=lh hb;clear hr ho hb)
  | (go_at_call 11;(with_reducible refine (sh36 _ _ _ _).mono ?_);rintro _ _ ⟨rfl,rfl⟩)
  | (go_at_call 13;(with_reducible refine (HW1.out _ _ B1.out S1.out O1.out).mono ?_);rintro _ w2 ⟨rfl,hr,hb⟩;have S2:=lh hr;have B2:=lh (bt B1.out hb);have O2:=lh (fun q hq=>Nat.lt_of_lt_of_le (O1.out q hq) hb.size);clear hr hb)
  | (go_at_call 13;(with_reducible refine (HW2.out _ _ B2.out S2.out O2.out).mono ?_);rintro _ w3 ⟨rfl,hr,hb⟩;have S3:=lh hr;have B3:=lh (bt B2.out hb);have O3:=lh (fun q hq=>Nat.lt_of_lt_of_le (O2.out q hq) hb.size);clear hr hb)
  | (go_at_call 13;(with_reducible refine (HW3.out _ _ B3.out S3.out O3.out).mono ?_);rintro _ w4 ⟨rfl,hr,hb⟩;have S4:=lh hr;have B4:=lh (bt B3.out hb);have O4:=lh (fun q hq=>Nat.lt_of_lt_of_le (O3.out q hq) hb.size);clear hr hb)
  | (go_at_call 14;(refine (HFI.out _ _ B4.out S4.out O4.out).mono ?_);rintro _ w5 ⟨x,al,gr,rfl,hd0,hI,hG,hb⟩;have hone:=zau x.1 al gr (zaP hI) (zaO hG);have R5:=zai w5 (x.1.vals al gr) 40 (0,0);have N2:=zah R5 2 _ (zek _ _ _);rw[hd0] at N2;have B5:=lh (bt (bt B4.out hb) (zab w5 (.cells (x.1.vals al gr) 40)));clear hI hG hb hd0 R5))
 go_ret
 exact⟨rfl,B5.out⟩
end
section
open Go.RowKit
open Go.Maps
def KB(w:World)(b n:Nat)(S:Int->Bool):Prop:=∃ D:DataW Unit,w.ownsMap Tryz.prog 3 (plainElem Tryz.prog 4) b n D∧∀ x,(Lit.int .i64 x).wf=true->D.atKey (.int .i64 x) (.lit (.bool false))=.lit (.bool (S x))
theorem KB.made(w:World):KB (w.alloc (.map #[] 0)) w.heap.size 0 (fun _=>false) :=
 ⟨.map [],World.ownsMap_made w _ _ _,fun _ _=>rfl⟩
theorem zd8{e:TypeId}(he:Tryz.prog.underlying e=some .bool){v:Value}{z:DataW Unit × List MemPlace}(h:plainElem Tryz.prog e v=some z):∃ x,v=.bool x∧z=(.lit (.bool x),[]):=by
 unfold plainElem at h;rw[he] at h;cases v <;> simp at h
 exact⟨_,rfl,h.symm⟩
theorem KB.look{w:World}{b n:Nat}{S:Int->Bool}(h:KB w b n S)(x:Int)(hx:(Lit.int .i64 x).wf=true):(Instr.lookup 33 (.map (some b)) (.int .i64 x) false).run Tryz.prog w=.ok (.bool (S x)) w:=by
 obtain⟨D,h1,h2⟩:=h;obtain⟨v,ps,hrun,hv⟩:=h1.lookup (int_keyed Tryz.underlying3) Tryz.underlying33 (z:=.bool false) (by kernel_rfl) (plainElem_bool Tryz.underlying4 false) (keyOf_int_mk Tryz.underlying3 hx);obtain⟨y,rfl,hy⟩:=zd8 Tryz.underlying4 hv;rw[h2 x hx] at hy;have e:S x=y:=Lit.bool.inj (DataW.lit.inj (congrArg Prod.fst hy));rw[e];exact hrun
theorem zwg{ops:Array Oper}{rest:List Oper}{o:Oper}{a:Act}{Q:Exit->Act->World->Prop}(w:World)(hg:o.guard=none)(m x v:Operand)(hop:o.op=Op.mapUpdate 33 m x v)(b n:Nat)(S:Int->Bool)(k:Int)(hm:a.eval m=.map (some b))(h:KB w b n S)(hn:n<maxLen)(hx:a.eval x=.int .i64 k)(hv:a.eval v=.bool true)(hk:(Lit.int .i64 k).wf=true)(hK:∀ w',KB w' b (n+1) (fun y=>(y==k) || S y)->w.grownBy w' (some b)->wpList Tryz.prog ops Q rest (a.put o.dst undef) w') :
  wpList Tryz.prog ops Q (o::rest) a w:=by
 obtain⟨D,h1,h2⟩:=h;refine wpList_mapUpdate_own w hg m x v _ hop 3 4 (int_keyed Tryz.underlying3) Tryz.underlying33 (plainElem Tryz.prog 4) b n D hm h1 hn _ _ _ hx hv (keyOf_int_mk Tryz.underlying3 hk) _ _ (plainElem_bool Tryz.underlying4 true) ?_
 intro w' h3 h4;refine hK w' ⟨_,h3,fun y hy=>?_⟩ h4
 show _=DataW.lit (Lit.bool ((y==k) || S y))
 by_cases e:y=k
 · subst e;rw[beq_self_eq_true,Bool.true_or];exact atKey_put_same h1.isMap (by simp [WideAt.IsKeyLit]) _ _
 · rw[show (y==k)=false by simpa using e,Bool.false_or,atKey_put_other (fun h=>e (by injection h)),h2 y hy]
theorem KB.block{w w':World}{b n:Nat}{S:Int->Bool}(h:KB w b n S)(k:w'.heap[b]?=w.heap[b]?):KB w' b n S:=by
 obtain⟨D,⟨es,cl,hb,r⟩,h2⟩:=h;exact⟨D,⟨es,cl,k.trans hb,r⟩,h2⟩
theorem KB.congr{w:World}{b n m:Nat}{S S':Int->Bool}(h:KB w b n S)(e:S=S')(hn:n<=m):KB w b m S':=by
 subst e;obtain⟨D,h1,h2⟩:=h;exact⟨D,h1.mono hn,h2⟩
theorem zgu(l:List Int)(k:Nat)(hk:k<l.length):(fun y=>(y==l[k]) || (l.take k).contains y)=fun y=>(l.take (k+1)).contains y:=by
 funext y
 rw[List.take_succ_eq_append_getElem hk,List.contains_append,Bool.or_comm];congr 1
 rw[Bool.eq_iff_iff];simp
end
section
open Go.RowKit
open Go.Maps
def KC(w:World)(b n:Nat)(S:Int->Int):Prop:=∃ D:DataW Unit,w.ownsMap Tryz.prog 3 (plainElem Tryz.prog 3) b n D∧∀ x,(Lit.int .i64 x).wf=true->D.atKey (.int .i64 x) (.lit (.int .i64 0))=.lit (.int .i64 (S x))
theorem KC.made(w:World):KC (w.alloc (.map #[] 0)) w.heap.size 0 (fun _=>0) :=
 ⟨.map [],World.ownsMap_made w _ _ _,fun _ _=>rfl⟩
theorem KC.block{w w':World}{b n:Nat}{S:Int->Int}(h:KC w b n S)(k:w'.heap[b]?=w.heap[b]?):KC w' b n S:=by
 obtain⟨D,⟨es,cl,hb,r⟩,h2⟩:=h;exact⟨D,⟨es,cl,k.trans hb,r⟩,h2⟩
theorem KC.congr{w:World}{b n m:Nat}{S S':Int->Int}(h:KC w b n S)(e:S=S')(hn:n<=m):KC w b m S':=by
 subst e;obtain⟨D,h1,h2⟩:=h;exact⟨D,h1.mono hn,h2⟩
theorem KC.look{w:World}{b n:Nat}{S:Int->Int}(h:KC w b n S)(x:Int)(hx:(Lit.int .i64 x).wf=true):(Instr.lookup 49 (.map (some b)) (.int .i64 x) false).run Tryz.prog w=.ok (.int .i64 (S x)) w:=by
 obtain⟨D,h1,h2⟩:=h;obtain⟨v,ps,hrun,hv⟩:=h1.lookup (int_keyed Tryz.underlying3) Tryz.underlying49 (z:=.int .i64 0) (by kernel_rfl) (plainElem_int Tryz.underlying3 (by decide)) (keyOf_int_mk Tryz.underlying3 hx);obtain⟨y,rfl,hy,-⟩:=plainElem_int_inv Tryz.underlying3 hv;rw[h2 x hx] at hy
 have e:S x=y:=by
  have:=DataW.lit.inj (congrArg Prod.fst hy);injection this
 rw[e];exact hrun
theorem zwh{ops:Array Oper}{rest:List Oper}{o:Oper}{a:Act}{Q:Exit->Act->World->Prop}(w:World)(hg:o.guard=none)(m x v:Operand)(hop:o.op=Op.mapUpdate 49 m x v)(b n:Nat)(S:Int->Int)(k z:Int)(hm:a.eval m=.map (some b))(h:KC w b n S)(hn:n<maxLen)(hx:a.eval x=.int .i64 k)(hv:a.eval v=.int .i64 z)(hk:(Lit.int .i64 k).wf=true)(hz:(Lit.int .i64 z).wf=true)(hK:∀ w',KC w' b (n+1) (fun y=>if y=k then z else S y)->w.grownBy w' (some b)->wpList Tryz.prog ops Q rest (a.put o.dst undef) w') :
  wpList Tryz.prog ops Q (o::rest) a w:=by
 obtain⟨D,h1,h2⟩:=h;refine wpList_mapUpdate_own w hg m x v _ hop 3 3 (int_keyed Tryz.underlying3) Tryz.underlying49 (plainElem Tryz.prog 3) b n D hm h1 hn _ _ _ hx hv (keyOf_int_mk Tryz.underlying3 hk) _ _ (plainElem_int Tryz.underlying3 hz) ?_
 intro w' h3 h4;refine hK w' ⟨_,h3,fun y hy=>?_⟩ h4
 show _=DataW.lit (Lit.int .i64 (if y=k then z else S y))
 by_cases e:y=k
 · subst e;rw[if_pos rfl];exact atKey_put_same h1.isMap (by simp [WideAt.IsKeyLit]) _ _
 · rw[if_neg e,atKey_put_other (fun h=>e (by injection h)),h2 y hy]
end
section
open Go.RowKit
set_option linter.unusedSimpArgs false
theorem zgO{ops:Array Oper}{o:Oper}{a:Act}{K:Act->World->Prop}{Q:Exit->Act->World->Prop}{E:Prop}(w:World){x y:Operand}{q:Nat}{cs:Array Value}(hgd:o.guard=none)(hd:o.dst=none)(ho:o.op=.store 40 x y)(hx:a.eval x=.pointer (some ⟨q,0,none⟩))(hy:a.eval y=.agg cs)(hH:Held w q 33)(hz:cs.size=33)(h1:zaM cs.toList=true)(h:K a (w.setRow q cs)):if Region.wanted o (yielded ops a.tmps)=true then Oper.wp Tryz.prog o a w K Q else E:=by
 obtain⟨dst,op,ty,pos,af,gd⟩:=o;simp only at ho hgd hd
 subst ho hgd hd;rw[if_pos (by simp [Region.wanted])];have hr:=zaz a.eval w none x y ty pos af none (by rw[hx];rfl) (by rw[hx];exact hH) (by rw[hy];rfl) (by rw[hy];exact hz) (by rw[hy];exact h1);rw[hx,hy,zae,zal] at hr;unfold Oper.wp;rw[hr];exact h
theorem zgN{ops:Array Oper}{o:Oper}{a:Act}{K:Act->World->Prop}{Q:Exit->Act->World->Prop}{E:Prop}(w:World)(d:Option Tmp)(hgd:o.guard=none)(hd:o.dst=d)(ho:o.op=.alloc 40)(h:K (a.put d (.pointer (some ⟨w.heap.size,0,none⟩))) (w.alloc (.cells (zlit 0 ⟨#[]⟩) 40))):if Region.wanted o (yielded ops a.tmps)=true then Oper.wp Tryz.prog o a w K Q else E:=by
 obtain⟨dst,op,ty,pos,af,gd⟩:=o;simp only at ho hgd hd
 subst ho hgd hd;rw[if_pos (by simp [Region.wanted])];unfold zlit at h;go_simp
 exact h
theorem zoz(w:World)(q:Nat)(cs:Array Value):w.grownBy (w.setRow q cs) (some q):=by
 have hb:=below_setRow (Below.refl q w) (Nat.le_refl q) cs;exact⟨hb.os,hb.tape,hb.output,by simp,fun k _ hne=>zaX w q k cs (fun e=>hne (by rw[e]))⟩
theorem zoA{wD w6:World}{q:Nat}{al gr:Value}{x:Fu}(hb:Below wD.heap.size wD w6)(hq:wD.heap.size<=q)(hH:Held w6 q 33)(hI:IS w6 al x.2.1)(hG:GS w6 gr x.2.2)(na:0<x.2.1.length->∀ b,al.ownBlock=some b->b≠q)(ng:0<x.2.2.length->∀ b,gr.ownBlock=some b->b≠q) :
  row (w6.setRow q (x.1.vals al gr)) q=x.1.vals al gr∧IS (w6.setRow q (x.1.vals al gr)) al x.2.1∧GS (w6.setRow q (x.1.vals al gr)) gr x.2.2∧Below wD.heap.size wD (w6.setRow q (x.1.vals al gr)) :=
 ⟨zaQ hH _,zcN hI (zoz _ _ _) na,zd0 hG (zoz _ _ _) ng,below_setRow hb hq _⟩
theorem zc0(sv:Value)(l:List Rw)(w:World)(p:Nat)(hp:p=w.heap.size)(hr:RwS w sv l)(ho:∀ b,sv.ownBlock=some b->b<w.heap.size):SHs w (w.alloc (.cells #[sv,.int .i64 0,.int .i64 0,.int .i64 0] 68)) p sv l 0 0 0:=by
 subst hp;exact zb9 sv l w hr ho
theorem zex(p:Nat)(sv:Value)(R:List Rw)(name:ByteArray)(x:Fu)(id:Int)(w0 w:World)(hm:MaxL w0)(hT:Tab w0)(hS:SHs w0 w p sv R 0 0 0)(hg:zcC R name=(x,id,0)) :
  Calls Tryz.prog 14 #[.iface 31 (.pointer (some ⟨p,0,none⟩)),.string name] w fun r w'=>∃ al gr,r=.returned (.tuple #[.agg (x.1.vals al gr),.int .i64 id,.int .i64 0])∧IS w' al x.2.1∧GS w' gr x.2.2∧(∀ b,al.ownBlock=some b->w.heap.size<=b)∧(∀ b,gr.ownBlock=some b->w.heap.size<=b)∧Below w0.heap.size w0 w'∧w.grownBy w' (some p):=by
 refine (zmG p sv R 0 0 0 name w0 w hm hT hS (Int.le_refl _) (by decide) (.inr (Int.le_refl _))).mono ?_
 rintro _ w' ⟨h,hs,hgr⟩;rw[zhQ R 0 0 0 name (Int.le_refl _) (Int.le_refl _),hg] at h;obtain⟨al,gr,rfl,hI,hG,h1,h2⟩:=h;exact⟨al,gr,rfl,hI,hG,h1,h2,hs.b,hgr⟩
theorem zoB(p:Nat)(sv:Value)(R:List Rw)(name:ByteArray)(id:Int)(w0 w:World)(hm:MaxL w0)(hT:Tab w0)(hS:SHs w0 w p sv R 0 0 0)(hg:zaN R name=(id,0)) :
  Calls Tryz.prog 13 #[.iface 31 (.pointer (some ⟨p,0,none⟩)),.string name] w fun r w'=>r=.returned (.tuple #[.int .i64 id,.int .i64 0])∧Below w0.heap.size w0 w'∧w.grownBy w' (some p):=by
 refine (ze6 p sv R 0 0 0 name w0 w hm hT hS (Int.le_refl _) (by decide) (.inr (Int.le_refl _))).mono ?_
 rintro _ w' ⟨rfl,hs,hgr⟩;rw[(zel R 0 0 0 name (Int.le_refl _) (Int.le_refl _)).1,hg];exact⟨rfl,hs.b,hgr⟩
theorem zgK{w:World}{al:Value}{l:List Int}(h:IS w al l)(h0:0<l.length)(q:Nat)(hq:al.ownBlock=some q):q<w.heap.size:=by
 obtain⟨a,c,rfl,-,hc⟩:=h;obtain⟨b,o,rfl,hb,-⟩:=hc h0;cases hq;exact hb
theorem zgI{w:World}{al:Value}{l:List Gr}(h:GS w al l)(h0:0<l.length)(q:Nat)(hq:al.ownBlock=some q):q<w.heap.size:=by
 obtain⟨a,c,rfl,-,hc⟩:=h;obtain⟨b,o,rfl,hb,-⟩:=hc h0;cases hq;exact hb
end
section
open Go.ChangeShapes Go.WideShapes Go.RowKit
theorem zhY{H:Type}{enc:TypeId × Value->H}{W:World}{fuel:Nat}{v:Value}{x:DataW H × List MemPlace}(h:DataW.trod enc Tryz.prog W 0 (fun _=>true) true fuel 27 [v]=some x) :
  ∃ (a:Option Addr) (n c:Nat),v=.slice a n c∧(n<=1000->∃ l:List Int,l.length=n∧IS W v l):=by
 rcases open_ints Tryz.underlying27 Tryz.underlying3 (by kernel_rfl) h with ⟨h1,-⟩|⟨a,len,cap,zs,h1,-,hl,-,hz,-,hc,-⟩
 · obtain rfl:v=.slice none 0 0:=by simpa using h1
   exact⟨none,0,0,rfl,fun _=>⟨[],rfl,IS.nil W⟩⟩
 · obtain rfl:v=.slice (some a) len cap:=by simpa using h1
   refine⟨some a,len,cap,rfl,fun hn=>⟨zs.take len,by rw[List.length_take];split at hz <;> omega,?_⟩⟩
   have hlen:(zs.take len).length=len:=by rw[List.length_take];split at hz <;> omega
   refine⟨some a,cap,by rw[hlen],by omega,fun h0=>?_⟩
   rw[hlen] at h0;have hzl:len<=zs.length:=by split at hz <;> omega
   have c0:=hc 0 (by omega)
   have hs:a.spot=none:=by
    have:=World.cell?_spot c0;simpa [Addr.add] using this
   obtain⟨b,o,s⟩:=a;simp only at hs
   subst hs;refine⟨b,o,rfl,?_,fun k hk=>?_⟩
   · have:=World.block_lt_of_cell? W _ c0;simpa [Addr.add] using this
   · rw[hlen] at hk;have:=hc k (by omega);rw[Addr.add_mid] at this;rw[this];simp [List.getD_eq_getElem?_getD,List.getElem?_eq_getElem (show k<zs.length by omega)]
def EFT(w:World)(b o:Nat)(x:Ef):Prop :=
 ∃ (a1:Option Addr) (c1:Nat) (a2:Option Addr) (c2:Nat),mid w b o=x.e.vals (.slice a1 x.n1 c1) (.slice a2 x.n2 c2)∧x.n1<=9223372036854775807∧x.n2<=9223372036854775807∧(x.n1<=1000->∃ l:List Int,l.length=x.n1∧IS w (.slice a1 x.n1 c1) l)∧(x.n2<=1000->x.gs.length=x.n2∧GS w (.slice a2 x.n2 c2) x.gs)
def EST(w:World)(a:Option Addr)(n:Nat)(F:Nat->Ef):Prop:=n<=9223372036854775807∧∀ k,k<n->∃ b o,a=some ⟨b,o,none⟩∧b<w.heap.size∧EFT w b (o+k*33) (F k)
theorem EST.es{w:World}{a:Option Addr}{n:Nat}{F:Nat->Ef}(h:EST w a n F):ES w a n F :=
 ⟨h.1,fun k hk=>by
  obtain⟨b,o,h1,h2,a1,c1,a2,c2,h3,h4,h5,-,h7⟩:=h.2 k hk;exact⟨b,o,h1,h2,a1,c1,a2,c2,h3,h4,h5,h7⟩⟩
theorem zt7{H:Type}{enc:TypeId × Value->H}{W:World}{fuel:Nat}{a:Option Addr}{n c:Nat}{x:DataW H × List MemPlace}(h:DataW.trod enc Tryz.prog W 0 (fun _=>true) true fuel 27 [.slice a n c]=some x):n<=1000->∃ l:List Int,l.length=n∧IS W (.slice a n c) l:=by
 obtain⟨a',n',c',e,hg⟩:=zhY h;cases e
 exact hg
end
section
open Go.RowKit
theorem zmW:∀ (l:List (Array Value)) (_:∀ r∈l,r.size=36),(ec l).length=l.length*36
 | [],_=>rfl
 | r::l,h=>by
   rw[ec,List.length_append,zmW l (fun x hx=>h x (by simp [hx])),List.length_cons,Array.length_toList,h r (by simp)];omega
theorem zqb:∀ (l:List (Array Value)) (_:∀ r∈l,r.size=36) (k i:Nat) (_:i<36) (r:Array Value),l[k]?=some r->(ec l)[k*36+i]?=r[i]?
 | [],_,k,i,_,r,h=>by simp at h
 | x::l,hz,0,i,hi,r,h=>by
   simp at h;subst h
   rw[ec,List.getElem?_append_left (by rw[Array.length_toList,hz x (by simp)];omega)];simp
 | x::l,hz,k+1,i,hi,r,h=>by
   have:=zqb l (fun x hx=>hz x (by simp [hx])) k i hi r (by simpa using h);rw[ec,List.getElem?_append_right (by rw[Array.length_toList,hz x (by simp)];omega),Array.length_toList,hz x (by simp),<-this];congr 1;omega
theorem zuv(l:List (Array Value))(hz:∀ r∈l,r.size=36)(P:Nat->Value->Prop)(h:∀ (k i:Nat) (r:Array Value) (v:Value),l[k]?=some r->r[i]?=some v->P (k*36+i) v):∀ j u,(ec l)[j]?=some u->P j u:=by
 intro j u hu;have hj:=(List.getElem?_eq_some_iff.1 hu).1;rw[zmW l hz] at hj;have hk:j / 36<l.length:=by omega
 have e:j=j / 36*36+j % 36:=by omega
 rw[e] at hu ⊢;rw[zqb l hz (j / 36) (j % 36) (by omega) l[j / 36] (List.getElem?_eq_getElem hk)] at hu;exact h _ _ _ _ (List.getElem?_eq_getElem hk) hu
def zdB(w:World)(b o n:Nat):List (Array Value):=(List.range n).map fun k=>zfX w b (o+k*36)
theorem OS.size{w:World}{a:Option Addr}{n:Nat}{F:Nat->Oz}(h:OS w a n F)(b o:Nat)(ha:a=some ⟨b,o,none⟩):∀ r∈zdB w b o n,r.size=36:=by
 intro r hr;unfold zdB at hr;obtain⟨k,hk,rfl⟩:=List.mem_map.1 hr;obtain⟨b',o',e,-,a1,c1,a2,c2,he,-⟩:=h.2 k (List.mem_range.1 hk);rw[ha] at e;cases e;rw[he];exact zbi _ _ _ _ _ _
theorem OS.ones{w:World}{a:Option Addr}{n:Nat}{F:Nat->Oz}(h:OS w a n F)(b o:Nat)(ha:a=some ⟨b,o,none⟩):∀ r∈zdB w b o n,zaM r.toList=true:=by
 intro r hr;unfold zdB at hr;obtain⟨k,hk,rfl⟩:=List.mem_map.1 hr;obtain⟨b',o',e,-,a1,c1,a2,c2,he,-⟩:=h.2 k (List.mem_range.1 hk);rw[ha] at e;cases e;rw[he];exact zfz (zau _ _ _ rfl rfl)
theorem OS.cells{w:World}{b o n c:Nat}{F:Nat->Oz}(h:OS w (some ⟨b,o,none⟩) n F):CS w 36 (.slice (some ⟨b,o,none⟩) n c) n (ec (zdB w b o n)):=by
 have hz:=h.size b o rfl;refine⟨_,_,rfl,by rw[zmW _ hz];unfold zdB;simp,fun _=>⟨_,rfl,zuv _ hz (fun j u=>w.cell? ((⟨b,o,none⟩:Addr).add j)=some u) fun k i r v hr hv=>?_⟩⟩
 unfold zdB at hr;rw[List.getElem?_map] at hr
 cases e:(List.range n)[k]? with
 | none=>rw[e] at hr;cases hr
 | some k' =>
   rw[e] at hr
   have hk':k'=k:=by
    have:=(List.getElem?_eq_some_iff.1 e).2;simpa using this.symm
   subst hk';cases hr
   have:=zhq rfl i v hv;rw[Addr.add_lit,<-Nat.add_assoc];exact this
theorem OS.all{w:World}{a:Option Addr}{n c:Nat}{F:Nat->Oz}(h:OS w a n F) :
  ∃ rows:List (Array Value),CS w 36 (.slice a n c) n (ec rows)∧rows.length=n∧(∀ r∈rows,r.size=36)∧(∀ r∈rows,zaM r.toList=true)∧∀ (k:Nat) (r:Array Value),rows[k]?=some r->∃ b o,a=some ⟨b,o,none⟩∧zfX w b (o+k*36)=r∧k<n:=by
 rcases Nat.eq_zero_or_pos n with h0|h0
 · subst h0;exact⟨[],⟨a,c,rfl,rfl,fun h=>absurd h (by decide)⟩,rfl,(fun _ h=>by cases h),(fun _ h=>by cases h),fun k r h=>by simp at h⟩
 · obtain⟨b,o,rfl,-⟩:=h.2 0 h0;refine⟨zdB w b o n,h.cells,by unfold zdB;simp,h.size b o rfl,h.ones b o rfl,fun k r hr=>?_⟩
   have hk:=(List.getElem?_eq_some_iff.1 hr).1;unfold zdB at hk hr;simp at hk
   refine⟨b,o,rfl,?_,hk⟩
   rw[List.getElem?_map,List.getElem?_range hk,Option.map_some] at hr;exact Option.some.inj hr
end
section
open Go.ChangeShapes Go.WideShapes Go.RowKit
theorem zkA{l:List Value}(h:l.length=36):l=((l.drop 0).take 1++(l.drop 1).take 1)++((l.drop 2).take 33++(l.drop 35).take 1):=by
 rw[List.drop_zero];have e1:l=l.take 1++l.drop 1:=(List.take_append_drop 1 l).symm
 have e2:l.drop 1=(l.drop 1).take 1++l.drop 2:=by
  have:=(List.take_append_drop 1 (l.drop 1)).symm;rwa [List.drop_drop] at this
 have e3:l.drop 2=(l.drop 2).take 33++l.drop 35:=by
  have:=(List.take_append_drop 33 (l.drop 2)).symm;rwa [List.drop_drop] at this
 have e4:(l.drop 35).take 1=l.drop 35:=List.take_of_length_le (by rw[List.length_drop];omega);rw[e4,<-e3,List.append_assoc,<-e2];exact e1
theorem zst{H:Type}{enc:TypeId × Value->H}{W:World}{fuel:Nat}{l:List Value}{x:DataW H × List MemPlace}(hl:l.length=36)(h:DataW.trod enc Tryz.prog W 0 (fun _=>true) true fuel 59 l=some x) :
  ∃ (k i:Int) (e:En) (s:ByteArray) (a1:Option Addr) (n1 c1:Nat) (a2:Option Addr) (n2 c2:Nat),l=(opv k i e (.slice a1 n1 c1) (.slice a2 n2 c2) s).toList∧n1<=9223372036854775807∧n2<=9223372036854775807∧(n1<=1000->∃ l:List Int,l.length=n1∧IS W (.slice a1 n1 c1) l)∧(n2<=1000->∃ l:List Gr,l.length=n2∧GS W (.slice a2 n2 c2) l):=by
 obtain⟨n,hg⟩:=znq Tryz.underlying59 h;have z33:Tryz.prog.cellsOf 40=33:=by kernel_rfl
 have z1:Tryz.prog.cellsOf 3=1:=by kernel_rfl
 have z2:Tryz.prog.cellsOf 9=1:=by kernel_rfl
 obtain⟨_,t0⟩:=hg 0 _ rfl;obtain⟨_,t1⟩:=hg 1 _ rfl;obtain⟨_,t2⟩:=hg 2 _ rfl;obtain⟨_,t3⟩:=hg 3 _ rfl;obtain⟨k,e0,-⟩:=DataW.trod_int Tryz.underlying3 t0;obtain⟨i,e1,-⟩:=DataW.trod_int Tryz.underlying3 t1;obtain⟨s,e3,-⟩:=DataW.trod_string Tryz.underlying9 t3;have e0:(l.drop 0).take (Tryz.prog.cellsOf 3)=[.int .i64 k]:=e0;have e1:(l.drop 1).take (Tryz.prog.cellsOf 3)=[.int .i64 i]:=e1;have e3:(l.drop 35).take (Tryz.prog.cellsOf 9)=[.string s]:=e3;have t2:DataW.trod enc Tryz.prog W 0 (fun _=>true) true n 40 ((l.drop 2).take (Tryz.prog.cellsOf 40))=some _:=t2;rw[z1] at e0 e1;rw[z2] at e3;rw[z33] at t2;obtain⟨e,a1,n1,c1,a2,n2,c2,e2,u1,u2,hgs,fl,z,htr⟩:=zsw (by rw[List.length_take,List.length_drop];omega) t2;refine⟨k,i,e,s,a1,n1,c1,a2,n2,c2,?_,u1,u2,zt7 htr,hgs⟩
 rw[zkA hl,e0,e1,e2,e3];unfold opv opc;simp
end
section
open Go.ChangeShapes Go.WideShapes Go.RowKit
theorem zgU{H:Type}{enc:TypeId × Value->H}{W:World}{r:Reach}{base:Nat}{v:Value}{d:DataW H}{p:List MemPlace}(hv:Value.okWide Tryz.prog W r base 22 v)(h:DataW.Trod enc Tryz.prog W 0 (fun _=>true) true 22 v d p) :
  ∃ (a:Option Addr) (n c:Nat) (F:Nat->Oz),v=.slice a n c∧OS W a n F:=by
 obtain⟨a,n,c,rfl⟩:=okWide_slice Tryz.underlying22 hv;obtain⟨fuel,hf⟩:=h;rcases Go.Deep.open_slice Tryz.underlying22 hf with ⟨h1,-⟩|⟨a',len,cap,m,f,D,Pl,h1,-,hl,hmax,hm,-,hi⟩
 · have:=List.head_eq_of_cons_eq h1;injection this with e1 e2 e3
   subst e1 e2 e3;exact⟨none,0,0,fun _=>⟨0,0,⟨En.zero,0,0,[]⟩,⟨#[]⟩⟩,rfl,by omega,fun k hk=>by omega⟩
 · have:=List.head_eq_of_cons_eq h1;injection this with e1 e2 e3
   subst e1 e2 e3;have e36:Tryz.prog.cellsOf 59=36:=by kernel_rfl
   have each:∀ k,k<n->∃ (x:Oz) (b o:Nat),a'=⟨b,o,none⟩∧b<W.heap.size∧OF W b (o+k*36) x:=fun k hk=>by
    obtain⟨cs,hc,ht⟩:=hi k (by rw[hm];split <;> omega);rw[e36] at hc;obtain⟨_,hcl,hat⟩:=World.cells?_some hc;obtain⟨kk,i,e,s,a1,n1,c1,a2,n2,c2,hcs,l1,l2,hal,hg⟩:=zst hcl ht;obtain⟨cs0,hc0,-⟩:=hi 0 (by rw[hm];split <;> omega);rw[e36] at hc0;obtain⟨_,hcl0,hat0⟩:=World.cells?_some hc0;have z0:=(hat0 0 (by omega)).trans (List.getElem?_eq_getElem (by omega:0<cs0.length));obtain⟨b,o,sp⟩:=a'
    obtain rfl:sp=none:=by
     have:=World.cell?_spot z0;simpa [Addr.add] using this
    have hcell:∀ (j:Nat) (v:Value),(opv kk i e (.slice a1 n1 c1) (.slice a2 n2 c2) s)[j]?=some v->W.cell? ⟨b,o+k*36+j,none⟩=some v:=fun j v hv=>by
     have hj:j<36:=by have:=(Array.getElem?_eq_some_iff.1 hv).1;rw[zbi] at this;exact this
     have:=hat j (by omega);rw[Addr.add_mid,Addr.add_mid] at this;rw[this,hcs,Array.getElem?_toList];exact hv
    have hmid:=zse (w:=W) (b:=b) (o:=o+k*36) (zbi kk i e (.slice a1 n1 c1) (.slice a2 n2 c2) s) hcell;refine⟨⟨kk,i,⟨e,n1,n2,if h:n2<=1000 then Classical.choose (hg h) else []⟩,s⟩,b,o,rfl,block_lt_of_cell (hcell 0 _ zuA),a1,c1,a2,c2,hmid,l1,l2,hal,fun h=>?_⟩
    have:=Classical.choose_spec (hg h);simp only[dif_pos (show n2<=1000 from h)]
    exact this
   refine⟨some a',n,c,fun k=>if h:k<n then Classical.choose (each k h) else ⟨0,0,⟨En.zero,0,0,[]⟩,⟨#[]⟩⟩,rfl,by simp only[maxLen] at hmax;omega,fun k hk=>?_⟩
   obtain⟨b,o,ha,hlt,hE⟩:=Classical.choose_spec (each k hk);refine⟨b,o,by rw[ha],hlt,?_⟩
   simp only[dif_pos hk]
   exact hE
theorem OS.ol{w:World}{a:Option Addr}{n:Nat}{F:Nat->Oz}(h:OS w a n F)(hk:∀ k,k<n->(F k).x.n1<=1000∧(F k).x.n2<=1000∧(F k).x.e.name.size<=60∧(F k).s.size<=60):∃ Z:Nat->Zo,OL w a n Z:=by
 have each:∀ k,k<n->∃ z:Zo,∃ b o al gr,a=some ⟨b,o,none⟩∧b<w.heap.size∧zfX w b (o+k*36)=opv z.1 z.2.1 z.2.2.1.1 al gr z.2.2.2∧IS w al z.2.2.1.2.1∧GS w gr z.2.2.1.2.2∧z.2.2.1.1.name.size<=60∧z.2.2.2.size<=60:=fun k hlt=>by
  obtain⟨b,o,h1,h2,a1,c1,a2,c2,h3,-,-,h4,h5⟩:=h.2 k hlt;obtain⟨q1,q2,q3,q4⟩:=hk k hlt;obtain⟨l,-,i1⟩:=h4 q1;exact⟨((F k).k,(F k).i,((F k).x.e,l,(F k).x.gs),(F k).s),b,o,_,_,h1,h2,h3,i1,(h5 q2).2,q3,q4⟩
 refine⟨fun k=>if h:k<n then Classical.choose (each k h) else (0,0,(En.zero,[],[]),⟨#[]⟩),fun k hlt=>?_⟩
 simp only[dif_pos hlt]
 exact Classical.choose_spec (each k hlt)
end
section
open Go.RowKit
set_option linter.unusedSimpArgs false
attribute [local go_sem ↓] zoy zu0
attribute [local go_sem] zav zap zal zaI zaJ zae zaq zai zaw zao zas zan zbi zaj zaf zaA zax zak zag zar zaG
end
section
open Go.RowKit
theorem zdp(a0:Option Addr)(n0 c0:Nat)(F:Nat->Oz)(w:World)(hL:OS w a0 n0 F):Calls Tryz.prog 8 #[.slice a0 n0 c0,.int .i64 16] w fun r w'=>∃ b:Bool,r=.returned (.bool b)∧(b=true->n0<=16∧∀ k,k<n0->few6X (F k))∧Below w.heap.size w w' :=
 (few36 a0 n0 c0 F 16 w hL).mono fun r w' ⟨b,h1,h2,h3⟩=>⟨b,h1,fun q=>⟨by have:=(h2 q).1;omega,(h2 q).2⟩,h3⟩
theorem zrO{D:List Rw}(h:Inv D):∀ x∈zfS (zga D),1<=x∧x<=15:=fun x hx=>by
 rw[ze3] at hx;unfold zga at hx;rcases List.mem_append.1 hx with hx|hx
 · rw[List.mem_singleton.1 hx];decide
 · obtain⟨r,hr,rfl⟩:=List.mem_map.1 hx;obtain⟨e,he,hk,rfl⟩:=(znI h (k:=3) (by decide)).1 hr;show 1<=(zaS (zaT e.1.kind e.1.name) (zcF e)).1.1.cat∧_<=_
   have e2:zaS (zcA 1 e).2.1 (zcA 1 e).2.2=(e,0):=za3 e he.1;rw[show zaS (zaT e.1.kind e.1.name) (zcF e)=(e,0) from e2,e2];have ho:=he.1;unfold okX okC Vp.cat Vp.rng at ho;rw[hk] at ho;simp at ho
   exact ho.1.2
theorem zsQ(e:En)(l:List Int)(g:List Gr):zeF e e l l g g=true:=(zbj _ _ _ _ _ _).2 ⟨rfl,rfl,rfl⟩
theorem zni(z:Fu)(al gr al2 gr2:Value)(w:World)(h1:IS w al z.2.1)(h2:GS w gr z.2.2)(h3:IS w al2 z.2.1)(h4:GS w gr2 z.2.2):Calls Tryz.prog 15 #[.agg (z.1.vals al gr),.agg (z.1.vals al2 gr2)] w fun r w'=>r=.returned (.bool true)∧Below w.heap.size w w':=by
 have:=zer z.1 z.1 al gr al2 gr2 z.2.1 z.2.1 z.2.2 z.2.2 w h1 h3 h2 h4;rwa [zsQ] at this
theorem zra(sv:Value)(D:List Rw)(W:World)(hm:MaxL W)(hT:Tab W)(hr:RwS W sv D)(ho:∀ b,sv.ownBlock=some b->b<W.heap.size)(hinv:Inv D)(hl:D.length<=900)(hkz:∀ y∈D,y.2.1.size<=1000) :
  Calls Tryz.prog 10 #[.iface 31 (.pointer (some ⟨W.heap.size,0,none⟩))] (W.alloc (.cells #[sv,.int .i64 0,.int .i64 0,.int .i64 0] 68)) fun r w'=>∃ a c,r=.returned (.tuple #[.slice a (zfS (zga D)).length c,.int .i64 0])∧IS w' (.slice a (zfS (zga D)).length c) (zfS (zga D))∧Below W.heap.size W w'∧RwS w' sv D:=by
 have hb:=zab W (.cells #[sv,.int .i64 0,.int .i64 0,.int .i64 0] 68);refine (zft W.heap.size sv D 0 0 0 W _ hm hT (zb9 sv D W hr ho) (fun b e=>Nat.lt_of_lt_of_le (ho b e) hb.size) hl hkz (by decide) (by decide) (Or.inr (by decide)) (hinv.rdL 1 67)).mono ?_
 rintro _ w' ⟨s',c,code,hrec,⟨a,cc,n,rfl,hi,-⟩,hs,-⟩;have h:=zpI hinv;rw[hrec] at h;injection h with h
 injection h with e1 e2
 subst e1 e2;obtain⟨rfl,hI⟩:=hi rfl;exact⟨a,cc,rfl,hI,hs.b,hs.r⟩
end
end Go.Proofs.YtefcmdmfgdcpmaaGreatDoor
