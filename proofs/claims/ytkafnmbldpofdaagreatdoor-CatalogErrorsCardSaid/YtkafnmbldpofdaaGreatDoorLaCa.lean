/- Catalogs. -/
import Derived.Test.YtkafnmbldpofdaaGreatDoorCu
import Derived.Test.YtkafnmbldpofdaaGreatDoorYr
import Derived.Test.YtkafnmbldpofdaaGreatDoorReb
import Derived.Test.YtkafnmbldpofdaaGreatDoorFrameEs
set_option maxRecDepth 100000
set_option maxHeartbeats 16000000
namespace Go.Proofs.YtkafnmbldpofdaaGreatDoor
def pmB:ByteArray:=⟨#[80,65,89,46,77,65,83,84,69,82]⟩
def zgO:ByteArray:=⟨#[80,65,89]⟩
def poB:ByteArray:=⟨#[80,65,89,46,79,76,68]⟩
def e35:En:={ En.zero with kind:=0,name:=pmB,d0:=130 }
def m35:Fu:=(e35,[],[])
def f35:En:={ En.zero with kind:=2,name:=zgO,target:=pmB }
def a35:Fu:=(f35,[],[])
theorem zi8:okX m35=true:=by
 unfold okX
 rw[if_pos (show m35.1.kind=0 from rfl)]
 unfold okD
 rw[show zcc (zdt m35.1) m35.1 m35.2.1 m35.2.1 [] m35.2.2=true from (zby _ _ _ _ _ _).2 ⟨by unfold zdt m35 e35;rfl,rfl,rfl⟩]
 decide +kernel
theorem zi6:okX a35=true:=by
 unfold okX
 rw[if_neg (show ¬ a35.1.kind=0 by decide),if_neg (show ¬ a35.1.kind=1 by decide),if_pos (show a35.1.kind=2 from rfl)]
 unfold okA
 rw[show zcc (zeo a35.1) a35.1 [] a35.2.1 [] a35.2.2=true from (zby _ _ _ _ _ _).2 ⟨by unfold zeo a35 f35;rfl,rfl,rfl⟩]
 decide +kernel
def km:ByteArray:=zbl 0 pmB
def ka:ByteArray:=zbl 2 zgO
theorem zpW:zc6 (Ds.bl (zbT m35))=some m35:=by
 unfold zbT
 rw[if_pos zi8,Ds.bl_mk]
 exact zdr _ zi8 (zdn _ zi8)
theorem zpV:zc6 (Ds.bl (zbT a35))=some a35:=by
 unfold zbT
 rw[if_pos zi6,Ds.bl_mk]
 exact zdr _ zi6 (zdn _ zi6)
theorem zou:zbb km (zbT m35)=(m35,0):=by
 unfold zbb
 rw[zpW]
 exact if_pos (zcD 0 pmB).symm
theorem zop:zbb ka (zbT a35)=(a35,0):=by
 unfold zbb
 rw[zpV]
 exact if_pos (zcD 2 zgO).symm
def rows1:List Rw:=[(2,km,zbT m35)]
def rows2:List Rw:=[(2,ka,zbT a35),(2,km,zbT m35)]
theorem znJ:apl [] [zbv 2 m35]=rows1:=rfl
theorem zsv:¬ km=ka:=by decide +kernel
theorem zsy:ltB (Ds.bl km) (Ds.bl ka)=false:=by decide +kernel
theorem znO:apl rows1 [zbv 2 a35]=rows2:=by
 have h1:zb1 rows1=rows1:=rfl
 unfold apl
 rw[h1,List.foldl_cons,List.foldl_nil]
 unfold apS
 rw[if_pos (show (zbv 2 a35).1=0 from rfl)]
 have h2:zbc (zbv 2 a35) rows1=rows1:=by
  unfold zbc rows1
  rw[List.filter_cons_of_pos,List.filter_nil]
  show (!(decide ((2:Int)=2)&&decide (km=ka)))=true
  rw[decide_eq_false zsv];rfl
 rw[h2]
 have h3:rows1.takeWhile (zcG (2,ka,zbT a35))=[]∧rows1.dropWhile (zcG (2,ka,zbT a35))=rows1:=by
  have:zcG (2,ka,zbT a35) (2,km,zbT m35)=false:=by
   show (decide ((2:Int)<2) || (decide ((2:Int)=2)&&ltB (Ds.bl km) (Ds.bl ka)))=false
   rw[zsy];rfl
  unfold rows1
  constructor
  · rw[List.takeWhile_cons,if_neg (by rw[this];simp)]
  · rw[List.dropWhile_cons,if_neg (by rw[this];simp)]
 show zex (2,ka,zbT a35) rows1=rows2
 unfold zex
 rw[h3.1,h3.2]
 rfl
theorem zgf{l:List Rw}{id kind:Int}{name:ByteArray}(h0:¬ zbl kind name=⟨#[]⟩)(h:zcv id (zbl kind name) l=none):zcV l id kind name=(zF0,6):=by
 unfold zcV zbs
 rw[if_neg h0,if_neg (by decide),h]
theorem zeV{l:List Rw}{id kind:Int}{name s:ByteArray}(h0:¬ zbl kind name=⟨#[]⟩)(h:zcv id (zbl kind name) l=some s):zcV l id kind name=zbb (zbl kind name) s:=by
 unfold zcV zbs
 rw[if_neg h0,if_neg (by decide),h]
theorem zqI{key:ByteArray}(h:¬ km=key):zcv 2 key rows1=none:=by
 unfold rows1
 rw[zcv,if_neg (fun k=>h k.2)];rfl
theorem zlv{key:ByteArray}(h:¬ km=key)(h2:¬ ka=key):zcv 2 key rows2=none:=by
 unfold rows2
 rw[zcv,if_neg (fun k=>h2 k.2),zcv,if_neg (fun k=>h k.2)];rfl
theorem zgc{l:List Rw}{id:Int}{name:ByteArray}(hn:Ds.name (Ds.bl name)=true)(h0:zcV l id 0 name=(zF0,6))(h1:zcV l id 1 name=(zF0,6)):zb5 l id name=if (zcV l id 2 name).2=6 then (zF0,6) else zcV l id 2 name:=by
 unfold zb5
 rw[if_neg (by rw[hn];simp),zcg,h0,if_pos rfl,zcg,h1,if_pos rfl,zcg]
 rfl
theorem zje:Ds.name (Ds.bl zgO)=true:=by decide +kernel
theorem zlk:Ds.name (Ds.bl pmB)=true:=by decide +kernel
theorem zlm:Ds.name (Ds.bl poB)=true:=by decide +kernel
theorem zqE:Ds.gen (Ds.bl zgO)=false:=by decide +kernel
theorem zle:Ds.gen (Ds.bl pmB)=false:=by decide +kernel
theorem zsO:Ds.gen (Ds.bl poB)=false:=by decide +kernel
theorem zo2:zfy [] 2 m35=([zbv 2 m35],0):=by
 have g:∀ k:Int,¬ zbl k pmB=⟨#[]⟩->zcV [] 2 k pmB=(zF0,6):=fun k h=>zgf h rfl
 have hf:zb5 [] 2 pmB=(zF0,6):=by
  rw[zgc zlk (g 0 (by decide +kernel)) (g 1 (by decide +kernel)),g 2 (by decide +kernel)];rfl
 unfold zfy
 rw[if_pos zi8]
 have hc:zjQ [] 2 m35=6:=by
  unfold zjQ
  rw[if_neg (by decide)]
  show (zb5 [] 2 pmB).2=6
  rw[hf]
 rw[hc,if_neg (by decide),if_neg (fun h=>by have:=h.1.1;rw[show Ds.gen (Ds.bl m35.1.name)=false from zle] at this;cases this)]
 have hl:zcj [] 2 m35=0:=by unfold zcj;rw[if_pos (by decide)]
 rw[hl,if_neg (fun h=>h rfl)]
theorem zms:zb5 rows1 2 pmB=(m35,0):=by
 have h:zcV rows1 2 0 pmB=(m35,0):=by
  rw[zeV (s:=zbT m35) (by decide +kernel) (by unfold rows1;rw[zcv];exact if_pos ⟨rfl,rfl⟩)]
  exact zou
 unfold zb5
 rw[if_neg (by rw[zlk];simp),zcg,h,if_neg (by decide)]
theorem zoZ:zfy rows1 2 a35=([zbv 2 a35],0):=by
 have g:∀ k:Int,¬ zbl k zgO=⟨#[]⟩->¬ km=zbl k zgO->zcV rows1 2 k zgO=(zF0,6):=fun k h h2=>zgf h (zqI h2)
 have hf:zb5 rows1 2 zgO=(zF0,6):=by
  rw[zgc zje (g 0 (by decide +kernel) (by decide +kernel)) (g 1 (by decide +kernel) (by decide +kernel)),g 2 (by decide +kernel) (by decide +kernel)];rfl
 unfold zfy
 rw[if_pos zi6]
 have hc:zjQ rows1 2 a35=6:=by
  unfold zjQ
  rw[if_neg (by decide)]
  show (zb5 rows1 2 zgO).2=6
  rw[hf]
 rw[hc,if_neg (by decide),if_neg (fun h=>by have:=h.1.1;rw[show Ds.gen (Ds.bl a35.1.name)=false from zqE] at this;cases this)]
 have hl:zcj rows1 2 a35=0:=by
  unfold zcj
  rw[if_neg (by decide)]
  show (match zb5 rows1 2 pmB with|(y,c)=>if c≠0 then c else if Ds.gen (Ds.bl y.1.name)=true∨y.1.kind=2 then 7 else 0)=0
  rw[zms]
  show (if Ds.gen (Ds.bl pmB)=true∨(0:Int)=2 then (7:Int) else 0)=0
  rw[zle];decide
 rw[hl,if_neg (fun h=>h rfl)]
theorem zky:zb5 rows2 2 zgO=(a35,0):=by
 have g:∀ k:Int,¬ zbl k zgO=⟨#[]⟩->¬ km=zbl k zgO->¬ ka=zbl k zgO->zcV rows2 2 k zgO=(zF0,6):=fun k h h2 h3=>zgf h (zlv h2 h3)
 have h2:zcV rows2 2 2 zgO=(a35,0):=by
  rw[zeV (s:=zbT a35) (by decide +kernel) (by unfold rows2;rw[zcv];exact if_pos ⟨rfl,rfl⟩)]
  exact zop
 rw[zgc zje (g 0 (by decide +kernel) (by decide +kernel) (by decide +kernel)) (g 1 (by decide +kernel) (by decide +kernel) (by decide +kernel)),h2];rfl
theorem zp4:zcV rows2 2 0 pmB=(m35,0):=by
 rw[zeV (s:=zbT m35) (by decide +kernel) (by
  unfold rows2
  rw[zcv,if_neg (fun k=>zsv k.2.symm),zcv]
  exact if_pos ⟨rfl,rfl⟩)]
 exact zou
theorem zmy:zb5 rows2 2 poB=(zF0,6):=by
 have g:∀ k:Int,¬ zbl k poB=⟨#[]⟩->¬ km=zbl k poB->¬ ka=zbl k poB->zcV rows2 2 k poB=(zF0,6):=fun k h h2 h3=>zgf h (zlv h2 h3)
 rw[zgc zlm (g 0 (by decide +kernel) (by decide +kernel) (by decide +kernel)) (g 1 (by decide +kernel) (by decide +kernel) (by decide +kernel)),g 2 (by decide +kernel) (by decide +kernel) (by decide +kernel)];rfl
theorem nx2a(R1 R2:ByteArray):nx 2 [(65:UInt8) - 1,255] [(2,ka,R1),(2,km,R2)]=some (2,ka,R1):=by rfl
theorem nx2b(R1 R2:ByteArray):nx 2 (Ds.bl ka) [(2,ka,R1),(2,km,R2)]=some (2,km,R2):=by rfl
theorem ali2(c:Int)(h:0<=c):zeL rows2 0 0 c 2 pmB=(([a35],0),c+1+1):=by
 have e1:zb4 rows2 2 0 0 65 (zfA pmB) (rows2.length+1) c [(65:UInt8) - 1,255] []=(.ok ([a35],0),c+1+1):=by
  show zb4 rows2 2 0 0 65 (zfA pmB) (1+1+1) c [(65:UInt8) - 1,255] []=_
  have s1:zfA pmB [] ka (zbT a35)=.ok [a35]:=by
   unfold zfA
   rw[zop,if_neg (fun h=>h rfl)]
   exact if_pos rfl
  have n1:=nx2a (zbT a35) (zbT m35)
  have n2:=nx2b (zbT a35) (zbT m35)
  change nx 2 _ rows2=_ at n1
  change nx 2 _ rows2=_ at n2
  rw[zb4,if_neg (by omega),n1]
  show (if (65:UInt8)<(Ds.bl ka).headD 0 then _ else if (Ds.bl ka).headD 0<(65:UInt8) then _ else _)=_
  rw[if_neg (by decide +kernel),if_neg (by decide +kernel),s1]
  show zb4 rows2 2 0 0 65 (zfA pmB) (1+1) (c+1) (Ds.bl ka) [a35]=_
  rw[zb4,if_neg (by omega),n2]
  show (if (65:UInt8)<(Ds.bl km).headD 0 then _ else _)=_
  rw[if_pos (by decide +kernel)]
 unfold zeL
 rw[e1]
 show (if (0:Int)≠0 then (([]:List Fu),(0:Int)) else ([a35],0),c+1+1)=_
 rw[if_neg (fun h=>h rfl)]
section
open Go.RowKit
set_option linter.unusedSimpArgs false
theorem sh35(a:Option Addr)(n c:Nat)(w:World):Calls Tryz.prog 12 #[.slice a n c] w fun r w'=>r=.returned (.pointer (some ⟨w.heap.size,0,none⟩))∧w.alloc (.cells #[.slice a n c,.int .i64 0,.int .i64 0,.int .i64 0] 69)=w':=by
 go_enter Tryz.func12,Tryz.ntmps12
 go_wp2_with fail
 go_ret
 exact⟨rfl,rfl⟩
theorem zdo(sv:Value)(l:List Rw)(w:World)(hr:RwS w sv l)(ho:∀ b,sv.ownBlock=some b->b<w.heap.size):SHs w (w.alloc (.cells #[sv,.int .i64 0,.int .i64 0,.int .i64 0] 69)) w.heap.size sv l 0 0 0:=by
 refine⟨⟨zai _ _ _ _,fun o=>by simp⟩,hr.below ((Below.refl _ _).alloc (Nat.le_refl _) _),fun b hb e=>?_,Nat.le_refl _,by simp,(Below.refl _ _).alloc (Nat.le_refl _) _⟩
 have:=ho b hb
 omega
theorem zlO(w:World):RwS w (.slice none 0 0) []:=⟨none,0,rfl,by simp,fun h=>by simp at h⟩
theorem zpX:e35.vals (.slice none 0 0) (.slice none 0 0)=#[.int .i64 0,.string ⟨#[80,65,89,46,77,65,83,84,69,82]⟩,.int .i64 130,.int .i64 0,.int .i64 0,.int .i64 0,.int .i64 0,.int .i64 0,.int .i64 0,.int .i64 0,.int .i64 0,.int .i64 0,.int .i64 0,.int .i64 0,.int .i64 0,.int .i64 0,.bool false,.int .i64 0,.string ⟨#[]⟩,.string ⟨#[]⟩,.int .i64 0,.int .i64 0,.bool false,.slice none 0 0,.int .i64 0,.int .i64 0,.int .i64 0,.bool false,.string ⟨#[]⟩,.string ⟨#[]⟩,.int .i64 0,.int .i64 0,.slice none 0 0]:=by unfold e35 En.vals;rfl
theorem zp1:f35.vals (.slice none 0 0) (.slice none 0 0)=#[.int .i64 2,.string ⟨#[80,65,89]⟩,.int .i64 0,.int .i64 0,.int .i64 0,.int .i64 0,.int .i64 0,.int .i64 0,.int .i64 0,.int .i64 0,.int .i64 0,.int .i64 0,.int .i64 0,.int .i64 0,.int .i64 0,.int .i64 0,.bool false,.int .i64 0,.string ⟨#[]⟩,.string ⟨#[]⟩,.int .i64 0,.int .i64 0,.bool false,.slice none 0 0,.int .i64 0,.int .i64 0,.int .i64 0,.bool false,.string ⟨#[]⟩,.string ⟨#[80,65,89,46,77,65,83,84,69,82]⟩,.int .i64 0,.int .i64 0,.slice none 0 0]:=by unfold f35 En.vals;rfl
theorem zpj(w:World)(hm:MaxL w)(hT:Tab w):Calls Tryz.prog 11 #[.iface 37 (.pointer (some ⟨w.heap.size,0,none⟩)),.int .i64 2,.agg (e35.vals (.slice none 0 0) (.slice none 0 0))] (w.alloc (.cells #[.slice none 0 0,.int .i64 0,.int .i64 0,.int .i64 0] 69)) fun r w'=>∃ a c,r=.returned (.tuple #[.slice a 1 c,.int .i64 0])∧ChS w' (.slice a 1 c) [zbv 2 m35]∧Below w.heap.size w w':=by
 refine (zl2 w.heap.size (.slice none 0 0) [] 0 0 0 2 m35 (.slice none 0 0) (.slice none 0 0) w _ hm hT (zdo _ _ w (zlO w) (fun _ h=>by cases h)) (Int.le_refl _) (by decide) (.inr (Int.le_refl _)) (Nat.le_of_ble_eq_true rfl) (IS.nil _) (GS.nil _) (fun _ _ h=>by cases h) (fun _ _ h=>by cases h)).mono ?_
 rintro _ w' ⟨ov,rfl,hc,hs,-⟩
 have e:=zls [] 0 0 0 2 m35 (Int.le_refl _) (Int.le_refl _)
 rw[e,zo2] at hc ⊢
 obtain⟨a,c,rfl,-⟩:=_root_.id hc
 exact⟨a,c,rfl,hc,hs.b⟩
theorem zpl(sv:Value)(w:World)(hm:MaxL w)(hT:Tab w)(hr:RwS w sv rows1)(ho:∀ b,sv.ownBlock=some b->b<w.heap.size):Calls Tryz.prog 11 #[.iface 37 (.pointer (some ⟨w.heap.size,0,none⟩)),.int .i64 2,.agg (f35.vals (.slice none 0 0) (.slice none 0 0))] (w.alloc (.cells #[sv,.int .i64 0,.int .i64 0,.int .i64 0] 69)) fun r w'=>∃ a c,r=.returned (.tuple #[.slice a 1 c,.int .i64 0])∧ChS w' (.slice a 1 c) [zbv 2 a35]∧Below w.heap.size w w':=by
 refine (zl2 w.heap.size sv rows1 0 0 0 2 a35 (.slice none 0 0) (.slice none 0 0) w _ hm hT (zdo _ _ w hr ho) (Int.le_refl _) (by decide) (.inr (Int.le_refl _)) (Nat.le_of_ble_eq_true rfl) (IS.nil _) (GS.nil _) (fun _ _ h=>by cases h) (fun _ _ h=>by cases h)).mono ?_
 rintro _ w' ⟨ov,rfl,hc,hs,-⟩
 have e:=zls rows1 0 0 0 2 a35 (Int.le_refl _) (Int.le_refl _)
 rw[e,zoZ] at hc ⊢
 obtain⟨a,c,rfl,-⟩:=_root_.id hc
 exact⟨a,c,rfl,hc,hs.b⟩
theorem zps(sv:Value)(w:World)(hm:MaxL w)(hT:Tab w)(hr:RwS w sv rows2)(ho:∀ b,sv.ownBlock=some b->b<w.heap.size):Calls Tryz.prog 16 #[.iface 37 (.pointer (some ⟨w.heap.size,0,none⟩)),.int .i64 2,.string ⟨#[80,65,89]⟩] (w.alloc (.cells #[sv,.int .i64 0,.int .i64 0,.int .i64 0] 69)) fun r w'=>∃ al gr,r=.returned (.tuple #[.agg (f35.vals al gr),.int .i64 0])∧zaV (f35.vals al gr).toList=true∧Below w.heap.size w w':=by
 refine (zeQ w.heap.size sv rows2 0 0 0 2 zgO w _ hm hT (zdo _ _ w hr ho) (Int.le_refl _) (by decide) (.inr (Int.le_refl _))).mono ?_
 rintro _ w' ⟨h,hs,-⟩
 have e:=zea rows2 0 0 0 2 zgO (Int.le_refl _) (Int.le_refl _)
 rw[e,zky] at h
 obtain⟨al,gr,rfl,hI,hG,-,-⟩:=h
 exact⟨al,gr,rfl,zav _ _ _ (zaT hI) (zaU hG),hs.b⟩
theorem zsP:(znC rows2 0 0 0 2 pmB poB).1=(ztl 2 m35 poB [a35],0):=by
 unfold znC
 rw[if_neg (by rw[zlm];simp)]
 have e1:=zgA rows2 0 0 0 2 0 pmB (Int.le_refl _) (Int.le_refl _)
 have c1:=zbU rows2 0 0 0 2 0 pmB
 rw[zp4] at e1
 generalize zbs rows2 0 0 0 2 0 pmB=g at e1 c1
 obtain⟨g1,cb⟩:=g
 dsimp only at e1 c1 ⊢
 subst e1
 rw[if_neg (fun h=>h rfl),if_neg (by rw[zle,zsO];simp)]
 have e2:=zea rows2 0 0 cb 2 poB (Int.le_refl _) c1.1
 have c2:=zeh rows2 0 0 cb 2 poB
 rw[zmy] at e2
 generalize zbL rows2 0 0 cb 2 poB=g at e2 c2
 obtain⟨g2,cc⟩:=g
 dsimp only at e2 c2 ⊢
 subst e2
 rw[if_neg (show ¬ zep 6≠0 by decide),ali2 cc (by omega),if_neg (fun h=>h rfl)]
theorem zrL(sv:Value)(w:World)(hm:MaxL w)(hT:Tab w)(hr:RwS w sv rows2)(ho:∀ b,sv.ownBlock=some b->b<w.heap.size):Calls Tryz.prog 31 #[.iface 37 (.pointer (some ⟨w.heap.size,0,none⟩)),.int .i64 2,.string ⟨#[80,65,89,46,77,65,83,84,69,82]⟩,.string ⟨#[80,65,89,46,79,76,68]⟩] (w.alloc (.cells #[sv,.int .i64 0,.int .i64 0,.int .i64 0] 69)) fun r w'=>∃ b o c,r=.returned (.tuple #[.slice (some ⟨b,o,none⟩) 3 c,.int .i64 0])∧w'.cell? ⟨b,o,none⟩=some (.int .i64 1)∧Below w.heap.size w w':=by
 refine (zg7 w.heap.size sv rows2 0 0 0 2 pmB poB w _ hm hT (zdo _ _ w hr ho) (fun b hb=>by have:=ho b hb;simp;omega) (by decide) (Int.le_refl _) (by decide) (.inr (Int.le_refl _)) (by decide) (by decide)).mono ?_
 rintro _ w' ⟨ov,rfl,hc,hs,-⟩
 rw[zsP] at hc ⊢
 obtain⟨a,c,rfl,-,hcc⟩:=hc
 obtain⟨b,o,rfl,hb,hat⟩:=hcc (by show 0<3;omega)
 exact⟨b,o,c,rfl,hat 0 (by show 0<3;omega) 0 _ rfl,hs.b⟩
theorem zpm(a:Option Addr)(c:Nat)(w:World)(hC:ChS w (.slice a 1 c) [zbv 2 m35]):Calls Tryz.prog 13 #[.slice none 0 0,.slice a 1 c] w fun r w'=>∃ a' n' c',r=.returned (.slice a' n' c')∧RwS w' (.slice a' n' c') rows1∧(∀ q,(Value.slice a' n' c').ownBlock=some q->q<w'.heap.size)∧Below w.heap.size w w':=by
 refine (zfa (.slice none 0 0) [] (.slice a 1 c) [zbv 2 m35] w (zlO w) hC (by decide) (by decide)).mono ?_
 rintro _ w' ⟨v',rfl,hr,ho,hb⟩
 rw[znJ] at hr
 obtain⟨a',c',rfl,-⟩:=_root_.id hr
 exact⟨_,_,_,rfl,hr,fun q hq=>(ho q hq).2,hb⟩
theorem zpr(v:Value)(a:Option Addr)(c:Nat)(w:World)(hR:RwS w v rows1)(hC:ChS w (.slice a 1 c) [zbv 2 a35]):Calls Tryz.prog 13 #[v,.slice a 1 c] w fun r w'=>∃ a' n' c',r=.returned (.slice a' n' c')∧RwS w' (.slice a' n' c') rows2∧(∀ q,(Value.slice a' n' c').ownBlock=some q->q<w'.heap.size)∧Below w.heap.size w w':=by
 refine (zfa v rows1 (.slice a 1 c) [zbv 2 a35] w hR hC (by decide) (by decide)).mono ?_
 rintro _ w' ⟨v',rfl,hr,ho,hb⟩
 rw[znO] at hr
 obtain⟨a',c',rfl,-⟩:=_root_.id hr
 exact⟨_,_,_,rfl,hr,fun q hq=>(ho q hq).2,hb⟩
attribute [local go_sem ↓] zaX za0 zaD zbg
attribute [local go_sem] zaA zas zan zaM zaO zah zat zai zau zaf zak zaq zab zap zaj zaE zaC zao zam zax zaL
theorem aw35(w:World)(hm:MaxL w)(hT:Tab w):Calls Tryz.prog 8 #[] w fun r w'=>r=.returned (.bool true)∧Below w.heap.size w w':=by
 obtain⟨cm,hcm⟩:∃ c,e35.vals (.slice none 0 0) (.slice none 0 0)=c:=⟨_,rfl⟩
 obtain⟨cf,hcf⟩:∃ c,f35.vals (.slice none 0 0) (.slice none 0 0)=c:=⟨_,rfl⟩
 have HA1:=lh (fun W (b:Below w.heap.size w W)=>zpj W (hm.below b) (hT.below b))
 have HA2:=lh (fun sv W (b:Below w.heap.size w W)=>zpl sv W (hm.below b) (hT.below b))
 have HF:=lh (fun sv W (b:Below w.heap.size w W)=>zps sv W (hm.below b) (hT.below b))
 have HR:=lh (fun sv W (b:Below w.heap.size w W)=>zrL sv W (hm.below b) (hT.below b))
 rw[hcm] at HA1
 rw[hcf] at HA2
 have lm:=hcm.symm.trans zpX
 have lf:=hcf.symm.trans zp1
 have sm:cm.size=33:=by rw[lm];rfl
 have sf:cf.size=33:=by rw[lf];rfl
 have om:zaV cm.toList=true:=by rw[lm];rfl
 have of:zaV cf.toList=true:=by rw[lf];rfl
 clear hcm hcf hm hT
 go_enter Tryz.func8,Tryz.ntmps8
 go_upto_region 3 with fail
 rw[<-lm,<-lf]
 clear lm lf
 have R1:=zau w cm 32 (0,0) (.cells cf 32)
 have R2:=zaf w cf 32 (0,0) (.cells cm 32)
 have B0:Below w.heap.size w ((w.alloc (.cells cm 32)).alloc (.cells cf 32)):=below2' _ _ _
 generalize (w.alloc (.cells cm 32)).alloc (.cells cf 32)=W2 at R1 R2 B0 ⊢
 refine wp_region_held_drew (S:=fun w'=>row w' w.heap.size=cm) (by kernel_rfl) R1 (fun hHeld=>?_)
 (refine znX (i:=2) (some 18) (v:=.agg (cm)) rfl rfl (by kernel_rfl) (by kernel_rfl) (by kernel_rfl) (fun _ _ _ h=>h) (by kernel_rfl) (fun wS hSw=>?_) (by assumption) ?_;focus (exact (zaX _ wS _ _ _ _ _ _ rfl (by show (row wS (w.heap.size)).size=33;rw[hSw];exact sm)).trans (by show Result.ok (Next.value (.agg (row wS (w.heap.size)))) wS=_;rw[hSw]));(try simp only[Act.put,pz]))
 refine rgb (i:=0) (by kernel_rfl) rfl (fun K hK=>?_)
 go_simp
 go_at_call 12
 refine (sh35 _ _ _ _).mono ?_
 rintro _ _ ⟨rfl,rfl⟩
 refine hK.out _ _ (zae (zag W2.drew _) R1 (by rw[sm];decide)) (fun hHeld=>?_)
 (clear hK K;(try simp only[Act.put,pz]))
 (refine rgy (i:=1) (some 17) ?_;(try simp only[Act.put,pz]))
 refine rgb (i:=3) (by kernel_rfl) rfl (fun K hK=>?_)
 go_simp
 go_at_call 11
 refine (HA1.out W2.drew B0.drew).mono ?_
 rintro _ w3 ⟨ca1,cc1,rfl,hc1,hb1⟩
 have b3:Below W2.heap.size W2 w3:=(Below.refl W2.heap.size W2).drew.trans hb1
 have R13:=zae b3 R1 (by rw[sm];decide)
 have R23:=zae b3 R2 (by rw[sf];decide)
 refine hK.out _ _ R13 (fun hHeld=>?_)
 (clear hK K;(try simp only[Act.put,pz]))
 (refine rgy (i:=4) (some 15) ?_;(try simp only[Act.put,pz]))
 (refine rgy (i:=5) (some 20) ?_;(try simp only[Act.put,pz]))
 (refine rgy (i:=6) (some 21) ?_;(try simp only[Act.put,pz]))
 (refine rgy (i:=7) (some 3) ?_;(try simp only[Act.put,pz]))
 (refine rgy (i:=8) (some 4) ?_;(try simp only[Act.put,pz]))
 refine wpAnyH_done (by kernel_rfl) ?_ _
 have B3:=lh (bt B0 b3)
 have C3:=lh hc1
 clear hc1 hb1 b3 hHeld R1 R2 B0
 go_upto_region 5 with (go_at_call 13;(refine (zpm _ _ _ C3.out).mono ?_);rintro _ w4 ⟨a4,n4,c4,rfl,hr4,ho4,hb4⟩;have R24:=zae hb4 R23 (by rw[sf];decide);have B4:=bt B3.out hb4;have SR4:=lh hr4;have HO4:=lh ho4;clear hr4 ho4 hb4)
 refine wp_region_held_drew (S:=fun w'=>row w' (w.heap.size+1)=cf) (by kernel_rfl) R24 (fun hHeld=>?_)
 (refine rgy (i:=0) (some 25) ?_;(try simp only[Act.put,pz]))
 (refine znX (i:=3) (some 28) (v:=.agg (cf)) rfl rfl (by kernel_rfl) (by kernel_rfl) (by kernel_rfl) (fun _ _ _ h=>h) (by kernel_rfl) (fun wS hSw=>?_) (by assumption) ?_;focus (exact (zaX _ wS _ _ _ _ _ _ rfl (by show (row wS (w.heap.size+1)).size=33;rw[hSw];exact sf)).trans (by show Result.ok (Next.value (.agg (row wS (w.heap.size+1)))) wS=_;rw[hSw]));(try simp only[Act.put,pz]))
 refine rgb (i:=1) (by kernel_rfl) rfl (fun K hK=>?_)
 go_simp
 go_at_call 12
 refine (sh35 _ _ _ _).mono ?_
 rintro _ _ ⟨rfl,rfl⟩
 refine hK.out _ _ (zae (zag w4.drew _) R24 (by rw[sf];decide)) (fun hHeld=>?_)
 (clear hK K;(try simp only[Act.put,pz]))
 (refine rgy (i:=2) (some 27) ?_;(try simp only[Act.put,pz]))
 refine rgb (i:=4) (by kernel_rfl) rfl (fun K hK=>?_)
 go_simp
 go_at_call 11
 refine (HA2.out _ w4.drew B4.drew (SR4.out.below (Below.refl _ _).drew) HO4.out).mono ?_
 rintro _ w5 ⟨ca2,cc2,rfl,hc2,hb2⟩
 have b5:Below w4.heap.size w4 w5:=(Below.refl w4.heap.size w4).drew.trans hb2
 refine hK.out _ _ (zae b5 R24 (by rw[sf];decide)) (fun hHeld=>?_)
 (clear hK K;(try simp only[Act.put,pz]))
 (refine rgy (i:=5) (some 24) ?_;(try simp only[Act.put,pz]))
 (refine rgy (i:=6) (some 30) ?_;(try simp only[Act.put,pz]))
 (refine rgy (i:=7) (some 31) ?_;(try simp only[Act.put,pz]))
 (refine rgy (i:=8) (some 6) ?_;(try simp only[Act.put,pz]))
 (refine rgy (i:=9) (some 7) ?_;(try simp only[Act.put,pz]))
 refine wpAnyH_done (by kernel_rfl) ?_ _
 have B5:=bt B4 b5
 have C5:=lh hc2
 have SR5:=lh (SR4.out.below b5)
 clear hc2 hb2 b5 hHeld R24 R23 R13 B4 SR4 HO4 B3 C3
 go_wp2_with (first
  | (go_at_call 13;(refine (zpr _ _ _ _ SR5.out C5.out).mono ?_);rintro _ w6 ⟨a6,n6,c6,rfl,hr6,ho6,hb6⟩;have B6:=bt B5 hb6;have SR6:=lh hr6;have HO6:=lh ho6;clear hr6 ho6 hb6)
  | (go_at_call 12;(with_reducible refine (sh35 _ _ _ _).mono ?_);rintro _ _ ⟨rfl,rfl⟩)
  | (go_at_call 16;(refine (HF.out _ w6 B6 SR6.out HO6.out).mono ?_);rintro _ w7 ⟨al7,gr7,rfl,hone7,hb7⟩;have N7:(w7.alloc (.cells (f35.vals al7 gr7) 32)).cell? ⟨w7.heap.size,29,none⟩=some (.string ⟨#[80,65,89,46,77,65,83,84,69,82]⟩):=zaa (zai w7 (f35.vals al7 gr7) 32 (0,0)) 29 _ (za9 f35 al7 gr7);have b7:=bt hb7 (zag w7 (.cells (f35.vals al7 gr7) 32));have B7:=bt B6 b7;have SR7:=lh (SR6.out.below b7);have HO7:=lh (fun q hq=>Nat.lt_of_lt_of_le (HO6.out q hq) b7.size);have hr7:=HR.out _ (w7.alloc (.cells (f35.vals al7 gr7) 32)) B7 SR7.out HO7.out;rw[World.size_alloc] at hr7;have HR7:=lh hr7;clear hb7 b7 hr7)
  | (go_at_call 31;(refine HR7.out.mono ?_);rintro _ w8 ⟨b8,o8,c8,rfl,h8,hb8⟩;have N8:=(hb8.cell (p:=⟨w7.heap.size,29,none⟩) (by show w7.heap.size<w7.heap.size+1;omega)).trans N7;have B8:=Below.trans B7 (hb8.mono (by have:=B7.size;simp at this;omega));clear hb8 N7))
 go_ret
 exact⟨rfl,B8⟩
end
section
open Go.RowKit
attribute [local go_sem] zay zaz zgC zf8 zaW zaS za9 za1
def GR(w:World)(a:Option Addr)(n:Nat):Prop:=n<=9223372036854775807∧∀ k,k<n->∃ (b o:Nat) (g:Gr),a=some ⟨b,o,none⟩∧b<w.heap.size∧w.cell? ⟨b,o+k*3,none⟩=some (.string g.1)∧w.cell? ⟨b,o+k*3+1,none⟩=some (.bool g.2.1)∧w.cell? ⟨b,o+k*3+2,none⟩=some (.int .i64 g.2.2)
def fewP(e:En)(n1 n2:Nat):Prop:=e.name.size<=60∧n1<=8∧n2<=12
def FewR(e:En)(n1 n2:Nat)(w w':World)(r:Ending):Prop:=∃ b:Bool,r=.returned (.bool b)∧(b=true->fewP e n1 n2)∧Below w.heap.size w w'
theorem FewR.no{e:En}{n1 n2:Nat}{w w':World}(h:Below w.heap.size w w'):FewR e n1 n2 w w' (.returned (.bool false)):=⟨false,rfl,(fun h=>by cases h),h⟩
end
section
open Go.ChangeShapes Go.WideShapes Go.RowKit
theorem zhx{H:Type}{enc:TypeId × Value->H}{W:World}{fuel:Nat}{v:Value}{x:DataW H × List MemPlace}(h:DataW.trod enc Tryz.prog W 0 (fun _=>true) true fuel 29 [v]=some x) :
  ∃ (a:Option Addr) (n c:Nat),v=.slice a n c∧(n<=1000->∃ l:List Int,l.length=n∧IS W v l):=by
 rcases open_ints Tryz.underlying29 Tryz.underlying3 (by kernel_rfl) h with ⟨h1,-⟩|⟨a,len,cap,zs,h1,-,hl,-,hz,-,hc,-⟩
 · obtain rfl:v=.slice none 0 0:=by simpa using h1
   exact⟨none,0,0,rfl,fun _=>⟨[],rfl,IS.nil W⟩⟩
 · obtain rfl:v=.slice (some a) len cap:=by simpa using h1
   refine⟨some a,len,cap,rfl,fun hn=>⟨zs.take len,by rw[List.length_take];split at hz <;> omega,?_⟩⟩
   have hlen:(zs.take len).length=len:=by rw[List.length_take];split at hz <;> omega
   refine⟨some a,cap,by rw[hlen],by omega,fun h0=>?_⟩
   rw[hlen] at h0
   have hzl:len<=zs.length:=by split at hz <;> omega
   have c0:=hc 0 (by omega)
   have hs:a.spot=none:=by
    have:=World.cell?_spot c0
    simpa [Addr.add] using this
   obtain⟨b,o,s⟩:=a
   simp only at hs
   subst hs
   refine⟨b,o,rfl,?_,fun k hk=>?_⟩
   · have:=World.block_lt_of_cell? W _ c0
     simpa [Addr.add] using this
   · rw[hlen] at hk
     have:=hc k (by omega)
     rw[Addr.add_mid] at this
     rw[this]
     simp [List.getD_eq_getElem?_getD,List.getElem?_eq_getElem (show k<zs.length by omega)]
theorem znv{H:Type}{enc:TypeId × Value->H}{W:World}{fuel:Nat}{a2:Option Addr}{n2 c2:Nat}{x:DataW H × List MemPlace}(h:DataW.trod enc Tryz.prog W 0 (fun _=>true) true fuel 30 [.slice a2 n2 c2]=some x):GR W a2 n2:=by
 rcases Go.Deep.open_slice Tryz.underlying30 h with ⟨h1,-⟩|⟨a,len,cap,m,f,D,Pl,h1,-,hl,hmax,hm,-,hi⟩
 · have:=List.head_eq_of_cons_eq h1
   injection this with e1 e2 e3
   subst e2
   exact⟨by omega,fun k hk=>by omega⟩
 · have:=List.head_eq_of_cons_eq h1
   injection this with e1 e2 e3
   subst e1 e2 e3
   refine⟨by simp only[maxLen] at hmax;omega,fun k hk=>?_⟩
   have e3:Tryz.prog.cellsOf 104=3:=by kernel_rfl
   obtain⟨cs,hc,ht⟩:=hi k (by rw[hm];split <;> omega)
   rw[e3] at hc
   obtain⟨_,hcl,hat⟩:=World.cells?_some hc
   obtain⟨y0,y1,y2,n',-,-,f0,f1,f2⟩:=Go.Deep.trod_struct3 Tryz.underlying104 ht
   match cs,hcl with
   | [c0,c1,c2],_ =>
     obtain⟨b,e0,-⟩:=DataW.trod_string Tryz.underlying9 f0
     obtain⟨g,e1,-⟩:=DataW.trod_bool Tryz.underlying4 f1
     obtain⟨l,e2,-⟩:=DataW.trod_int Tryz.underlying3 f2
     have k0:c0=.string b:=List.head_eq_of_cons_eq e0
     have k1:c1=.bool g:=List.head_eq_of_cons_eq e1
     have k2:c2=.int .i64 l:=List.head_eq_of_cons_eq e2
     subst k0 k1 k2
     have z0:=hat 0 (by omega)
     have z1:=hat 1 (by omega)
     have z2:=hat 2 (by omega)
     have hs:a.spot=none:=by
      obtain⟨cs',hc',-⟩:=hi 0 (by rw[hm];split <;> omega)
      rw[e3] at hc'
      obtain⟨_,hcl',hat'⟩:=World.cells?_some hc'
      match cs',hcl' with
      | [_,_,_],_ =>
        have:=World.cell?_spot (hat' 0 (by omega))
        simpa [Addr.add] using this
     obtain⟨bb,o,s⟩:=a
     simp only at hs
     subst hs
     refine⟨bb,o,(b,g,l),rfl,?_,?_,?_,?_⟩
     · have:=World.block_lt_of_cell? W _ z0
       rw[Addr.add_mid,Addr.add_mid] at this
       exact this
     · simpa [Addr.add_mid] using z0
     · simpa [Addr.add_mid] using z1
     · simpa [Addr.add_mid] using z2
theorem zrX{H:Type}{enc:TypeId × Value->H}{W:World}{e:En}{a1 a2:Option Addr}{n1 c1 n2 c2:Nat}{d:DataW H}{p:List MemPlace}(h:DataW.Trod enc Tryz.prog W 0 (fun _=>true) true 32 (.agg (e.vals (.slice a1 n1 c1) (.slice a2 n2 c2))) d p):GR W a2 n2:=by
 obtain⟨fuel,hf⟩:=h
 unfold En.vals at hf
 obtain⟨xs,n,-,-,-,hxs,hfs⟩:=DataW.trod_struct Tryz.underlying32 hf
 have hx1:xs[12]?=some (xs[12]'(by rw[hxs];decide)):=List.getElem?_eq_getElem _
 have s2:=(hfs 12 _ rfl).trans hx1
 exact znv s2
end
section
open Go.RowKit
attribute [local go_sem ↓] zaX za0 zaD zdf
attribute [local go_sem] zaA zas zan zaM zaO zah zat zai zau zaf zak zaq zab zap zaj zaE zaC zao zam zax zay zaz zaW zaS za9 za1
def zp3(F:Nat->Ef)(n:Nat)(m:Int):Prop:=(n:Int)<=m∧∀ k,k<n->(F k).e.name.size<=60∧(F k).e.target.size<=60∧(F k).n2<=12∧(F k).n1<=8
def FewCR(F:Nat->Ef)(n:Nat)(m:Int)(w w':World)(r:Ending):Prop:=∃ b:Bool,r=.returned (.bool b)∧(b=true->zp3 F n m)∧Below w.heap.size w w'
theorem FewCR.no{F:Nat->Ef}{n:Nat}{m:Int}{w w':World}(h:Below w.heap.size w w'):FewCR F n m w w' (.returned (.bool false)):=⟨false,rfl,(fun h=>by cases h),h⟩
theorem few35(a:Option Addr)(n c:Nat)(F:Nat->Ef)(m:Int)(w:World)(hES:ES w a n F) :
  Calls Tryz.prog 9 #[.slice a n c,.int .i64 m] w fun r w'=>FewCR F n m w w' r:=by
 have HES:=lh hES
 have hn63:=hES.1
 clear hES
 go_enter Tryz.func9,Tryz.ntmps9
 go_wp2_with fail
 go_loopw [9] (fun i wr=>∃ k:Nat,k<=n∧i=.int .i64 k∧(∀ j,j<k->(F j).e.name.size<=60∧(F j).e.target.size<=60∧(F j).n2<=12∧(F j).n1<=8)∧Below w.heap.size w wr) (fun i _=>n - (intOf i).toNat)
 case atStart=>exact⟨0,Nat.zero_le _,rfl,(fun j hj=>absurd hj (by omega)),by exact za4⟩
 case round =>
  obtain⟨k,hk,rfl,hok,B⟩:=hrel
  have HOK:=lh hok
  have z0:=B.size
  clear hok
  by_cases hlt:k<n
  · obtain⟨b,o,rfl,hb,a1,c1,a2,c2,hmid,h1,h2,-⟩:=(HES.out.below B).2 k hlt
    have hz:(mid wr b (o+k*33)).size=33:=by rw[hmid];exact zab _ _ _
    have hone:=zav (F k).e (.slice a1 (F k).n1 c1) (.slice a2 (F k).n2 c2) rfl rfl
    by_cases s0:(F k).e.name.size<=60
    rotate_left
    · have f6:decide (60<((F k).e.name.size:Int))=true:=by rw[decide_eq_true_eq];omega
      go_wp2_with fail
      go_ret
      exact FewCR.no (by exact za4)
    have f6:decide (60<((F k).e.name.size:Int))=false:=by rw[decide_eq_false_iff_not];omega
    by_cases s1:(F k).e.target.size<=60
    rotate_left
    · have f7:decide (60<((F k).e.target.size:Int))=true:=by rw[decide_eq_true_eq];omega
      go_wp2_with fail
      go_ret
      exact FewCR.no (by exact za4)
    have f7:decide (60<((F k).e.target.size:Int))=false:=by rw[decide_eq_false_iff_not];omega
    by_cases s2:(F k).n2<=12
    rotate_left
    · have f8:decide (12<((F k).n2:Int))=true:=by rw[decide_eq_true_eq];omega
      go_wp2_with fail
      go_ret
      exact FewCR.no (by exact za4)
    have f8:decide (12<((F k).n2:Int))=false:=by rw[decide_eq_false_iff_not];omega
    by_cases s3:(F k).n1<=8
    rotate_left
    · have f9:decide (8<((F k).n1:Int))=true:=by rw[decide_eq_true_eq];omega
      go_wp2_with fail
      go_ret
      exact FewCR.no (by exact za4)
    have f9:decide (8<((F k).n1:Int))=false:=by rw[decide_eq_false_iff_not];omega
    have HS:Hid ((F k).e.name.size<=60∧(F k).e.target.size<=60∧(F k).n2<=12∧(F k).n1<=8):=lh ⟨s0,s1,s2,s3⟩
    clear s0 s1 s2 s3
    go_wp2_with fail
    go_roundw
    case rel =>
     refine⟨k+1,by omega,by go_num,fun j hj=>?_,by exact za4⟩
     rcases Nat.lt_or_ge j k with h|h
     · exact HOK.out j h
     · obtain rfl:j=k:=by omega
       exact HS.out
    case measure=>simp [intOf];omega
  · obtain rfl:k=n:=by omega
    by_cases s0:(k:Int)<=m
    rotate_left
    · have f6:decide ((k:Int)<=m)=false:=by rw[decide_eq_false_iff_not];exact s0
      go_wp2_with fail
      go_ret
      exact FewCR.no B
    have f6:decide ((k:Int)<=m)=true:=by rw[decide_eq_true_eq];exact s0
    have HS:Hid ((k:Int)<=m):=lh s0
    clear s0
    go_wp2_with fail
    go_ret
    exact⟨_,rfl,fun _=>⟨HS.out,HOK.out⟩,B⟩
end
section
open Go.RowKit
set_option linter.unusedSimpArgs false
theorem zsT(x:Fu)(al gr:Value)(w:World)(hok:okX x=true)(hsz:x.1.name.size<=60)(h1:IS w al x.2.1)(h2:GS w gr x.2.2) :
  Calls Tryz.prog 149 #[.agg (x.1.vals al gr)] w fun r w'=>r=.returned (.tuple #[.string (zbT x),.int .i64 0])∧Below w.heap.size w w':=by
 refine (zjg x al gr w hsz h1 h2).mono ?_
 rintro r w' ⟨t,rfl,ht,hb⟩
 obtain rfl:t=zbT x:=Ds.bl_inj (by rw[ht];unfold zbT;rw[Ds.bl_mk])
 rw[if_pos hok]
 exact⟨rfl,hb⟩
theorem zmU{w:World}{al:Value}{l:List Int}(h:IS w al l)(h0:0<l.length)(q:Nat)(hq:al.ownBlock=some q):q<w.heap.size:=by
 obtain⟨a,c,rfl,-,hc⟩:=h
 obtain⟨b,o,rfl,hb,-⟩:=hc h0
 cases hq;exact hb
theorem zmP{w:World}{al:Value}{l:List Gr}(h:GS w al l)(h0:0<l.length)(q:Nat)(hq:al.ownBlock=some q):q<w.heap.size:=by
 obtain⟨a,c,rfl,-,hc⟩:=h
 obtain⟨b,o,rfl,hb,-⟩:=hc h0
 cases hq;exact hb
theorem zjy(sv:Value)(D:List Rw)(id:Int)(x:Fu)(al gr:Value)(w:World)(hsz:x.1.name.size<=60)(hI:IS w al x.2.1)(hG:GS w gr x.2.2)(hr:RwS w sv D) :
  Calls Tryz.prog 48 #[sv,.int .i64 id,.agg (x.1.vals al gr)] w fun r w'=>Ch2 w w' (zfy D id x) r :=
 zpz sv D id x al gr w hr hsz (zav _ _ _ (zaT hI) (zaU hG)) (fun W b=>zko x al gr W hsz (hI.below b) (hG.below b)) (fun hok W b=>zsT x al gr W hok hsz (hI.below b) (hG.below b))
attribute [local go_sem ↓] zaX za0 zaD zbg
attribute [local go_sem] zaA zas zan zaM zaO zah zat zai zau zaf zak zaq zab zap zaj zaE zaC zao zam zax zaL
end
end Go.Proofs.YtkafnmbldpofdaaGreatDoor
