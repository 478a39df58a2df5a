/- Catalogs. -/
import Derived.Test.YtefcmdmfgdcpmaaGreatDoorVaE
set_option maxRecDepth 8000
set_option maxHeartbeats 1600000
namespace Go.Proofs.YtefcmdmfgdcpmaaGreatDoor
open Go.RowKit
def GB(w:World)(ab ao:Nat)(g:List Gr):Prop:=∀ k (h:k<g.length),w.cell? ⟨ab,ao+k*3,none⟩=some (.string g[k].1)∧w.cell? ⟨ab,ao+k*3+1,none⟩=some (.bool g[k].2.1)∧w.cell? ⟨ab,ao+k*3+2,none⟩=some (.int .i64 g[k].2.2)
theorem zp1(g:List Gr)(h:∀ x∈g,GrOk x):∀ k,(grs (g.take k)).length<=220*k
 | 0=>by simp [grs]
 | k+1=>by
   have ih:=zp1 g h k;by_cases hk:k<g.length
   · have hx:=h g[k] (List.getElem_mem hk);have h1:=hx.w;have h2:=hx.l;have e1:=za5 g[k].1.size (by omega);have e2:=za5 g[k].2.2.toNat (by omega);rw[List.take_succ_eq_append_getElem hk,zcK,List.length_append];simp only[grs,List.length_append,List.length_cons,List.length_nil,Ds.bl_length]
     omega
   · rw[List.take_of_length_le (by omega)];rw[List.take_of_length_le (by omega)] at ih;omega
theorem zrE(c g:Nat)(l:List UInt8)(e:En)(al gr:Value)(g2:List Gr)(wB w:World)(hI:GS wB gr g2)(hB:Below wB.heap.size wB w)(hcB:wB.heap.size<=c)(h:WS w c g l (e.vals al gr))(hP:ProfOk e g2)(hs:l.length<=1000) :
  Calls Tryz.prog 92 #[.pointer (some ⟨c,0,none⟩),.pointer (some ⟨g,0,none⟩)] w fun r w'=>r=.returned (.tuple #[])∧WS w' c g (l++zc9 e g2) (e.vals al gr)∧w.grownBy w' (some c):=by
 obtain⟨hlev,hown,hgr,hg8⟩:=hP;have v31:=zbs e al gr;rw[show e.lev=((e.lev.toNat:Nat):Int) by omega] at v31;have z1:=za5 e.lev.toNat (by omega);have z2:=za5 e.owner.size (by omega);have z3:=za5 g2.length (by omega);have z4:=zp1 g2 hgr;obtain⟨S1,e1⟩:∃ S,S=l++Wi.enc e.lev.toNat:=⟨_,rfl⟩;obtain⟨S2,e2⟩:∃ S,S=S1++(Wi.enc e.owner.size++Ds.bl e.owner):=⟨_,rfl⟩;obtain⟨S3,e3⟩:∃ S,S=S2++Wi.enc g2.length:=⟨_,rfl⟩;have b1:S1.length<=1010:=by rw[e1,List.length_append];omega
 have b2:S2.length<=1300:=by rw[e2,List.length_append,List.length_append,Ds.bl_length];omega
 have b3:S3.length<=1400:=by rw[e3,List.length_append];omega
 have efin:l++zc9 e g2=S3++grs g2:=by
  rw[e3,e2,e1];unfold zc9;simp only[List.append_assoc]
 have c1:=fun W (hW:WS W c g l (e.vals al gr))=>zdm c g 31 e.lev.toNat l _ W hW (by omega) (by omega) v31
 rw[<-e1] at c1;have c2:=fun W (hW:WS W c g S1 (e.vals al gr))=>zfQ c g 28 e.owner S1 _ W hW (by omega) (by omega) (zbg e al gr)
 rw[<-e2] at c2;have c3:=fun W (hW:WS W c g S2 (e.vals al gr))=>zkp c g g2.length 8 S2 _ W hW (by omega) (by omega) (by omega)
 rw[<-e3] at c3;obtain⟨aa,ac,rfl,hlz,hcells⟩:=id hI;have v32:=zbl e al (.slice aa g2.length ac);have C1:=lh c1;have C2:=lh c2;have C3:=lh c3;have HCl:=lh hcells;have hBs:=hB.size;have HB:=lh hB;have HF:=lh efin;have V32:=lh v32;have HGR:=lh hgr;have HZ4:=lh z4;have HH:=lh h;clear c1 c2 c3 e1 e2 e3 efin hI hB z1 z2 z3 z4 v31 v32 hcells b1 b2 hlev hown hgr h;go_enter Tryz.func92,Tryz.ntmps92
 go_wp2_with (first
  | (go_at_call 90;(with_reducible refine (C1.out _ HH.out).mono ?_);rintro _ w1 ⟨rfl,hW1,hG1⟩;have HG1:=lh hG1;clear hG1)
  | (go_at_call 79;(with_reducible refine (C2.out _ hW1).mono ?_);rintro _ w2 ⟨rfl,hW2,hG2⟩;have v32:=hW2.2.1.cell 32 _ V32.out;have HG2:=lh (HG1.out.trans hG2);clear hG2)
  | (go_at_call 142;(with_reducible refine (C3.out _ hW2).mono ?_);rintro _ w3 ⟨rfl,hW3,hG3⟩;have v32:=hW3.2.1.cell 32 _ V32.out;obtain⟨_,_,hcw⟩:=id hW3.1;have k1:=hcw.2.1;have HG3:=lh (HG2.out.trans hG3);clear hG3 hcw))
 go_loopw [43] (fun i wr=>∃ k:Nat,k<=g2.length∧i=.int .i64 k∧WS wr c g (S3++grs (g2.take k)) (e.vals al (.slice aa g2.length ac))∧w.grownBy wr (some c)) (fun i _=>g2.length - (intOf i).toNat)
 case atStart=>exact⟨0,Nat.zero_le _,rfl,by simpa [grs] using hW3,HG3.out⟩
 case round =>
  obtain⟨k,hk,rfl,hWr,hGr⟩:=hrel;have HGr:=lh hGr;have v32:=hWr.2.1.cell 32 _ V32.out;have hBr:Below wB.heap.size wB wr:=HB.out.grown hGr hBs (fun x hx=>by cases hx;exact hcB);clear hGr;by_cases hlt:k<g2.length
  · obtain⟨ab,ao,rfl,hab,hcl⟩:=HCl.out (by omega);have hok:=HGR.out g2[k] (List.getElem_mem hlt);obtain⟨q0,q1,q2⟩:=hcl k hlt;have hz:=HZ4.out k;have hLn:(S3++grs (g2.take k)).length<=3500:=by rw[List.length_append];omega
    obtain⟨L,hL⟩:∃ L,L=S3++grs (g2.take k):=⟨_,rfl⟩
    have hnx:S3++grs (g2.take (k+1))=((L++(Wi.enc g2[k].1.size++Ds.bl g2[k].1))++[tb g2[k].2.1])++Wi.enc g2[k].2.2.toNat:=by
     rw[hL,List.take_succ_eq_append_getElem hlt,zcK];simp only[grs,List.append_assoc,List.append_nil]
    rw[<-hL] at hWr hLn;have ow:=hok.w;have ol:=hok.l;obtain⟨Gk,hG⟩:∃ G,G=g2[k]:=⟨_,rfl⟩;rw[<-hG] at ow ol hnx q0 q1 q2;clear hok hL hG hz hcl;obtain⟨gw,gg,gl⟩:=Gk;simp only at ow ol hnx q0 q1 q2
    have y1:=za5 gw.size (by omega);obtain⟨n,rfl⟩:∃ n:Nat,gl=n:=⟨gl.toNat,by omega⟩;simp only[Int.toNat_natCast] at hnx
    have step:∀ W W' L',WS W c g L' (e.vals al (.slice (some ⟨ab,ao,none⟩) g2.length ac))->Below wB.heap.size wB W->W.grownBy W' (some c)->Below wB.heap.size wB W':=fun W W' _ _ hb hg=>hb.grown hg hb.size (fun x hx=>by cases hx;exact hcB)
    have t1:=fun (W:World) (hW:WS W c g L (e.vals al (.slice (some ⟨ab,ao,none⟩) g2.length ac))) (hb:Below wB.heap.size wB W)=>zlt c ⟨ab,ao+k*3,none⟩ gw L W (by omega) (by omega) hW.1 ((hb.cell (p:=⟨ab,ao+k*3,none⟩) hab).trans q0) hW.2.2.2
    obtain⟨L1,hL1⟩:∃ L1,L1=L++(Wi.enc gw.size++Ds.bl gw):=⟨_,rfl⟩;rw[<-hL1] at t1 hnx;have m1:L1.length<=4000:=by rw[hL1,List.length_append,List.length_append,Ds.bl_length];omega
    have t2:=fun (W:World) (hW:WS W c g L1 (e.vals al (.slice (some ⟨ab,ao,none⟩) g2.length ac))) (hb:Below wB.heap.size wB W)=>zju c ⟨ab,ao+k*3+1,none⟩ gg L1 W (by omega) hW.1 ((hb.cell (p:=⟨ab,ao+k*3+1,none⟩) hab).trans q1) hW.2.2.2
    obtain⟨L2,hL2⟩:∃ L2,L2=L1++[tb gg]:=⟨_,rfl⟩;rw[<-hL2] at t2 hnx;have m2:L2.length<=4001:=by rw[hL2,List.length_append,List.length_singleton];omega
    have t3:=fun (W:World) (hW:WS W c g L2 (e.vals al (.slice (some ⟨ab,ao,none⟩) g2.length ac))) (hb:Below wB.heap.size wB W)=>zdU c ⟨ab,ao+k*3+2,none⟩ n L2 W (by omega) (by omega) hW.1 ((hb.cell (p:=⟨ab,ao+k*3+2,none⟩) hab).trans q2) hW.2.2.2
    rw[<-hnx] at t3;have T1:=lh t1;have T2:=lh t2;have T3:=lh t3;have HS:=lh step;have HW:=lh hWr;have HBr:=lh hBr;clear t1 t2 t3 step hWr hnx hL1 hL2 m1 m2 y1 ow ol q0 q1 q2 hLn hBr
    go_wp2_with (first
     | (go_at_call 79;(with_reducible refine (T1.out _ HW.out HBr.out).mono ?_);rintro _ w4 ⟨rfl,hL4,hG4⟩;have HW4:=lh (HW.out.grown hG4 hL4);have HB4:=lh (HS.out _ _ _ HW.out HBr.out hG4);have HG4:=lh (HGr.out.trans hG4);clear hG4 hL4)
     | (go_at_call 78;(with_reducible refine (T2.out _ HW4.out HB4.out).mono ?_);rintro _ w5 ⟨rfl,hL5,hG5⟩;have HW5:=lh (HW4.out.grown hG5 hL5);have HB5:=lh (HS.out _ _ _ HW4.out HB4.out hG5);have HG5:=lh (HG4.out.trans hG5);clear hG5 hL5)
     | (go_at_call 90;(with_reducible refine (T3.out _ HW5.out HB5.out).mono ?_);rintro _ w6 ⟨rfl,hL6,hG6⟩;have HW6:=lh (HW5.out.grown hG6 hL6);have HG6:=lh (HG5.out.trans hG6);clear hG6 hL6))
    go_roundw
    case rel=>exact⟨k+1,by omega,by go_num,HW6.out,HG6.out⟩
    case measure=>simp [intOf];omega
  · have hW9:WS wr c g (S3++grs g2) (e.vals al (.slice aa g2.length ac)):=by
     rw[List.take_of_length_le (by omega)] at hWr;exact hWr
    have HW9:=lh hW9;clear hWr hW9;go_wp2_with fail
    go_end0
    exact⟨rfl,by rw[HF.out];exact HW9.out,HGr.out⟩
def VB(w:World)(g n:Nat)(F:Nat->Value):Prop:=(∀ k,k<n->w.cell? ⟨g,k,none⟩=some (F k))∧(∀ o,w.frozen? ⟨g,o,none⟩=false)∧g<w.heap.size
theorem VB.grown{w w':World}{g n:Nat}{F:Nat->Value}{row:Option Nat}(h:VB w g n F)(hg:w.grownBy w' row)(hr:some g≠row):VB w' g n F:=by
 have hb:=hg.block g h.2.2 hr;refine⟨fun k hk=>?_,fun o=>?_,Nat.lt_of_lt_of_le h.2.2 hg.size⟩
 · rw[World.cell?_of_block (a:=⟨g,k,none⟩) hb];exact h.1 k hk
 · rw[World.frozen?_of_block (a:=⟨g,o,none⟩) hb];exact h.2.1 o
theorem VB.g2{w w':World}{gb n a b:Nat}{F:Nat->Value}(h:VB w gb n F)(hg:G2 w w' a b)(ha:gb≠a)(hb:gb≠b):VB w' gb n F:=by
 have hb:=hg.block gb h.2.2 ha hb;refine⟨fun k hk=>?_,fun o=>?_,Nat.lt_of_lt_of_le h.2.2 hg.size⟩
 · rw[World.cell?_of_block (a:=⟨gb,k,none⟩) hb];exact h.1 k hk
 · rw[World.frozen?_of_block (a:=⟨gb,o,none⟩) hb];exact h.2.1 o
theorem VB.set{w:World}{g n:Nat}{F:Nat->Value}(h:VB w g n F)(c:Nat)(hc:c<n)(v:Value):VB (w.setCell ⟨g,c,none⟩ v) g n (fun k=>if k=c then v else F k):=by
 refine⟨fun k hk=>?_,fun o=>by have:=h.2.1 o;simpa using this,by simpa using h.2.2⟩
 have h1:=h.1 k hk;have h0:=h.1 c hc;by_cases e:k=c
 · subst e;simp [go_sem,h0]
 · show _=some (if k=c then v else F k)
   rw[if_neg e,<-h1];have e':c≠k:=fun h=>e h.symm
   have e'':(c==k)=false:=by simpa using e'
   simp [go_sem]
theorem VB.other{w:World}{g n:Nat}{F:Nat->Value}(h:VB w g n F)(g2 c:Nat)(hne:g≠g2)(v:Value):VB (w.setCell ⟨g2,c,none⟩ v) g n F:=by
 refine⟨fun k hk=>?_,fun o=>by have:=h.2.1 o;simpa using this,by simpa using h.2.2⟩
 rw[<-h.1 k hk];have e':(g2==g)=false:=by simpa using fun h=>hne h.symm
 simp [go_sem]
def gcell(x:Gr)(j:Nat):Value:=if j=0 then .string x.1 else if j=1 then .bool x.2.1 else .int .i64 x.2.2
def gzero:Gr:=(⟨#[]⟩,false,0)
def zes(L:List Gr)(i:Nat):Value:=gcell (L.getD (i / 3) gzero) (i % 3)
theorem zoe(i:Nat):zes [] i=gcell gzero (i % 3):=by unfold zes;simp
theorem zlR(L:List Gr)(x:Gr)(k:Nat)(h:L.length=k):(fun i=>if i=k*3+2 then Value.int .i64 x.2.2 else (fun i=>if i=k*3+1 then Value.bool x.2.1 else (fun i=>if i=k*3 then Value.string x.1 else zes L i) i) i)=zes (L++[x]):=by
 funext i
 simp only
 subst h;unfold zes;rcases Nat.lt_or_ge i (L.length*3) with h1|h1
 · rw[if_neg (by omega),if_neg (by omega),if_neg (by omega),List.getD_eq_getElem?_getD,List.getD_eq_getElem?_getD,List.getElem?_append_left (by omega)]
 · rcases (by omega:i=L.length*3∨i=L.length*3+1∨i=L.length*3+2∨L.length*3+3<=i) with h2|h2|h2|h2
   · rw[if_neg (by omega),if_neg (by omega),if_pos h2,List.getD_eq_getElem?_getD,List.getElem?_append_right (by omega),show i / 3 - L.length=0 by omega,show i % 3=0 by omega];rfl
   · rw[if_neg (by omega),if_pos h2,List.getD_eq_getElem?_getD,List.getElem?_append_right (by omega),show i / 3 - L.length=0 by omega,show i % 3=1 by omega];rfl
   · rw[if_pos h2,List.getD_eq_getElem?_getD,List.getElem?_append_right (by omega),show i / 3 - L.length=0 by omega,show i % 3=2 by omega];rfl
   · rw[if_neg (by omega),if_neg (by omega),if_neg (by omega),List.getD_eq_getElem?_getD,List.getD_eq_getElem?_getD,List.getElem?_eq_none (by omega),List.getElem?_eq_none (by rw[List.length_append,List.length_singleton];omega)]
theorem zrx(L:List Gr)(k:Nat)(h:k<L.length)(j:Nat)(hj:j<3):zes L (k*3+j)=gcell L[k] j:=by
 unfold zes;rw[show (k*3+j) / 3=k by omega,show (k*3+j) % 3=j by omega,List.getD_eq_getElem?_getD,List.getElem?_eq_getElem h];rfl
theorem VB.gs{w:World}{g n:Nat}{L:List Gr}(h:VB w g (n*3) (zes L))(hl:L.length=n)(hn:n<=1000000):GS w (.slice (some ⟨g,0,none⟩) n n) L :=
 ⟨_,n,by rw[hl],by omega,fun _=>⟨g,0,rfl,h.2.2,fun k hk=>by
  have h0:=h.1 (k*3+0) (by omega);have h1:=h.1 (k*3+1) (by omega);have h2:=h.1 (k*3+2) (by omega);rw[zrx L k hk _ (by decide)] at h0 h1 h2;refine⟨?_,?_,?_⟩
  · rw[Nat.zero_add];exact h0
  · rw[Nat.zero_add];exact h1
  · rw[Nat.zero_add];exact h2⟩⟩
theorem ztY:(Tryz.prog.info? 103).map (fun i=>(i.zero,i.size,i.bytes))=some (some (.agg #[.string ⟨#[]⟩,.bool false,.int .i64 0]),3,32):=by kernel_rfl
theorem VB.made{w:World}{B e g n:Nat}(h:w.ownsRow B e 3 (.slice (some ⟨g,0,none⟩) n n) n (madeCells (Value.agg #[.string ⟨#[]⟩,.bool false,.int .i64 0]).cells (n*3)).toList)(hn:0<n):VB w g (n*3) (zes []):=by
 have hc:∀ k,k<n*3->w.cell? ⟨g,k,none⟩=some (zes [] k):=fun k hk=>by
  rw[h.cellAt k hk,zoe];unfold madeCells;rw[Array.getElem?_toList,Array.getElem?_map,Array.getElem?_range,if_pos hk];show some ((#[Value.string ⟨#[]⟩,.bool false,.int .i64 0]:Array Value)[k % 3]!)=_
  rcases (by omega:k % 3=0∨k % 3=1∨k % 3=2) with e|e|e <;> rw[e] <;> rfl
 exact⟨hc,fun o=>h.frozenAt o,block_lt_of_cell (hc 0 (by omega))⟩
theorem znz{w wr w1:World}{c rb g gb n j:Nat}{st st':List UInt8 × Nat}{cs:Array Value}{F:Nat->Value}(h:RS wr c rb g st cs)(hc:c<w.heap.size)(hr:rb<w.heap.size)(hg:g<w.heap.size)(hB:w.heap.size<=gb)(hN:VB wr gb n F)(hG:G2 w wr rb g)(hR:RL w1 rb st')(G:wr.grownBy w1 (some rb))(hj:j<n)(v:Value) :
  RS (w1.setCell ⟨gb,j,none⟩ v) c rb g st' cs∧VB (w1.setCell ⟨gb,j,none⟩ v) gb n (fun i=>if i=j then v else F i)∧G2 w (w1.setCell ⟨gb,j,none⟩ v) rb g :=
 ⟨h.far hR G ⟨gb,j,none⟩ (by show gb≠c;omega) (by show gb≠rb;omega) (by show gb≠g;omega) _,(hN.grown G (by intro e;have:=Option.some.inj e;omega)).set j hj v,hG.far G hB _⟩
theorem ztW{w w8 w9:World}{c rb g m:Nat}{S:List UInt8 × Nat}{E:En}{al:Value}(h:RS w8 c rb g S (E.vals al (.slice none 0 0)))(hG:G2 w w8 rb g)(hown:w9.ownsRow w8.heap.size 103 3 (.slice (some ⟨w8.heap.size,0,none⟩) m m) m (madeCells (Value.agg #[.string ⟨#[]⟩,.bool false,.int .i64 0]).cells (m*3)).toList)(hgrow:w8.grownBy w9 none)(hm:0<m) :
  w9.frozen? ⟨g,32,none⟩=false∧w9.cell? ⟨g,32,none⟩=some (.slice none 0 0)∧RS (w9.setCell ⟨g,32,none⟩ (.slice (some ⟨w8.heap.size,0,none⟩) m m)) c rb g S (E.vals al (.slice (some ⟨w8.heap.size,0,none⟩) m m))∧w.heap.size<=w8.heap.size∧VB (w9.setCell ⟨g,32,none⟩ (.slice (some ⟨w8.heap.size,0,none⟩) m m)) w8.heap.size (m*3) (zes [])∧G2 w (w9.setCell ⟨g,32,none⟩ (.slice (some ⟨w8.heap.size,0,none⟩) m m)) rb g:=by
 have hg8:=h.2.2.1.2.2;have G:w8.grownBy w9 (some rb):=⟨hgrow.os,hgrow.tape,hgrow.output,hgrow.size,fun k hk _=>hgrow.block k hk (by simp)⟩;have hb:=hgrow.block g hg8 (by simp);have ha:=h.after (h.2.1.grown hgrow h.2.2.2.2.2.2.2) G 32 (by rw[zaa];decide) (.slice (some ⟨w8.heap.size,0,none⟩) m m);rw[zqy] at ha;exact⟨(World.frozen?_of_block (a:=⟨g,32,none⟩) hb).trans (h.2.2.1.2.1 32),(World.cell?_of_block (a:=⟨g,32,none⟩) hb).trans (h.2.2.1.cell 32 _ (zbl E al _)),ha.1,hG.size,(VB.made hown hm).other g 32 (by omega) _,hG.trans ha.2⟩
theorem zlW(c rb g:Nat)(s:List UInt8 × Nat)(e:En)(al:Value)(w:World)(h:RS w c rb g s (e.vals al (.slice none 0 0)))(hs:s.1.length<=1000) :
  Calls Tryz.prog 92 #[.pointer (some ⟨c,0,none⟩),.pointer (some ⟨g,0,none⟩)] w fun r w'=>r=.returned (.tuple #[])∧∃ gr',RS w' c rb g (zc8 e s).2.2 ((zc8 e s).1.vals al gr')∧(GS w' gr' (zc8 e s).2.1∧∀ x,gr'.ownBlock=some x->w.heap.size<=x)∧G2 w w' rb g:=by
 obtain⟨S1,q1⟩:∃ S,S=(Rd.num s).2:=⟨_,rfl⟩;obtain⟨E1,r1⟩:∃ E:En,E=e.sLev (clip (Rd.num s).1):=⟨_,rfl⟩;obtain⟨S2,q2⟩:∃ S,S=(Rd.txt 200 S1).2:=⟨_,rfl⟩;obtain⟨E2,r2⟩:∃ E:En,E=E1.sOwner ⟨(Rd.txt 200 S1).1.toArray⟩:=⟨_,rfl⟩;obtain⟨S7,q7⟩:∃ S,S=(Rd.num S2).2:=⟨_,rfl⟩;obtain⟨m,qm⟩:∃ m,m=cntv 8 (clip (Rd.num S2).1):=⟨_,rfl⟩
 have efin:zc8 e s=(E2,(zgg S7 m).1,(zgg S7 m).2):=by
  rw[qm,q7,r2,q2,r1,q1];rfl
 have b1:S1.1.length<=1000:=by rw[q1];exact Nat.le_trans (Rd.num_len s) hs
 have b2:S2.1.length<=1000:=by rw[q2];exact Nat.le_trans (Rd.txt_len 200 S1).1 b1
 have b7:S7.1.length<=1000:=by rw[q7];exact Nat.le_trans (Rd.num_len S2) b2
 have bk:∀ k,(zgg S7 k).2.1.length<=1000:=fun k=>Nat.le_trans (zh0 S7 k) b7
 have hm5:m<=9:=by rw[qm];unfold cntv;split <;> omega
 have c1:∀ W,RS W c rb g s (e.vals al (.slice none 0 0))->Calls Tryz.prog 90 #[.pointer (some ⟨c,0,none⟩),.pointer (some ⟨g,31,none⟩)] W fun r w'=>r=.returned (.tuple #[])∧RS w' c rb g S1 (E1.vals al (.slice none 0 0))∧G2 W w' rb g:=fun W hW=>by
  have:=zcy c rb g 31 _ s _ W hW (by omega) (zbs e _ _);rw[zuV,<-q1] at this;rw[r1];exact this
 have c2:∀ W,RS W c rb g S1 (E1.vals al (.slice none 0 0))->Calls Tryz.prog 79 #[.pointer (some ⟨c,0,none⟩),.pointer (some ⟨g,28,none⟩)] W fun r w'=>r=.returned (.tuple #[])∧RS w' c rb g S2 (E2.vals al (.slice none 0 0))∧G2 W w' rb g:=fun W hW=>by
  have:=zdL c rb g 28 _ S1 _ W hW (by omega) (zbg E1 _ _);rw[zqx,<-q2] at this;rw[r2];exact this
 have c3:∀ W,RS W c rb g S2 (E2.vals al (.slice none 0 0))->Calls Tryz.prog 142 #[.pointer (some ⟨c,0,none⟩),.int .i64 0,.int .i64 8] W fun r w'=>r=.returned (.int .i64 m)∧RS w' c rb g S7 (E2.vals al (.slice none 0 0))∧G2 W w' rb g:=fun W hW=>by
  have:=zg9 c rb g 8 0 S2 _ W hW (by omega) (by omega);rw[<-qm,<-q7] at this;exact this
 have v32:=zbl E2 al (.slice none 0 0);have C1:=lh c1;have C2:=lh c2;have C3:=lh c3;have V32:=lh v32;have HB:=lh bk;have HH:=lh h;have hcw:=h.2.2.2.2.2.2.1;have hrw:=h.2.2.2.2.2.2.2;have hgw:=h.2.2.1.2.2;rw[efin];clear c1 c2 c3 v32 bk efin q1 q2 q7 qm r1 r2 b1 b2 b7 h;rcases Nat.eq_zero_or_pos m with hm0|hm0
 · have hm1:m<1:=by omega
   have HM:=lh hm0;clear hm0;go_enter Tryz.func92,Tryz.ntmps92
   go_wp2_with (first
    | (go_at_call 90;(with_reducible refine (C1.out _ HH.out).mono ?_);rintro _ w1 ⟨rfl,hW1,hG1⟩;have HG1:=lh hG1;clear hG1)
    | (go_at_call 79;(with_reducible refine (C2.out _ hW1).mono ?_);rintro _ w2 ⟨rfl,hW2,hG2⟩;have v32:=hW2.2.2.1.cell 32 _ V32.out;have HG2:=lh (HG1.out.trans hG2);clear hG2)
    | (go_at_call 142;(with_reducible refine (C3.out _ hW2).mono ?_);rintro _ w3 ⟨rfl,hW3,hG3⟩;have v32:=hW3.2.2.1.cell 32 _ V32.out;have k1:w3.cell? ⟨c,1,none⟩=some (.pointer (some ⟨rb,0,none⟩)):=hW3.1;have HG3:=lh (HG2.out.trans hG3);clear hG3))
   go_loopw [43] (fun i wr=>i=.int .i64 0∧RS wr c rb g S7 (E2.vals al (.slice none 0 0))∧G2 w wr rb g) (fun i _=>0)
   case atStart=>exact⟨rfl,hW3,HG3.out⟩
   case round =>
    obtain⟨rfl,hWr,hGr⟩:=hrel;have HGr:=lh hGr;have HWr:=lh hWr;clear hGr hWr;go_wp2_with fail
    go_end0
    exact⟨rfl,_,by rw[HM.out];exact HWr.out,⟨by rw[HM.out];exact GS.nil _,fun _ h=>by cases h⟩,HGr.out⟩
 · obtain⟨i0,hi,hz0,hz1,hz2⟩:=info_parts ztY;have HI:=lh hi;have HZ0:=lh hz0;have HZ1:=lh hz1;have HM:Hid (i0.bytes*m<=281474976710656):=lh (by rw[hz2];omega);have hmx:m<=maxLen:=by unfold maxLen;omega
   have HX:=lh hmx;clear hi hz0 hz1 hz2 hmx;go_enter Tryz.func92,Tryz.ntmps92
   go_wp2_with (first
    | (go_at_call 90;(with_reducible refine (C1.out _ HH.out).mono ?_);rintro _ w1 ⟨rfl,hW1,hG1⟩;have HG1:=lh hG1;clear hG1)
    | (go_at_call 79;(with_reducible refine (C2.out _ hW1).mono ?_);rintro _ w2 ⟨rfl,hW2,hG2⟩;have v32:=hW2.2.2.1.cell 32 _ V32.out;have HG2:=lh (HG1.out.trans hG2);clear hG2)
    | (go_at_call 142;(with_reducible refine (C3.out _ hW2).mono ?_);rintro _ w3 ⟨rfl,hW3,hG3⟩;have v32:=hW3.2.2.1.cell 32 _ V32.out;have k1:w3.cell? ⟨c,1,none⟩=some (.pointer (some ⟨rb,0,none⟩)):=hW3.1;have HG3:=lh (HG2.out.trans hG3);clear hG3)
    | (at_make;refine wpList_make_full _ rfl _ _ 38 rfl w3.heap.size 103 i0 (.agg #[.string ⟨#[]⟩,.bool false,.int .i64 0]) 3 Tryz.underlying38 HI.out HZ0.out HZ1.out _ _ _ _ m rfl rfl (by omega) (by omega) HM.out HX.out (Nat.le_refl _) ?_;intro w9 hown hgrow;have HS9:=lh (ztW hW3 HG3.out hown hgrow hm0);clear hown hgrow;have f0:=HS9.out.1;have c32:=HS9.out.2.1))
   go_loopw [43] (fun i wr=>∃ (k gb:Nat),k<=m∧i=.int .i64 k∧RS wr c rb g (zgg S7 k).2 (E2.vals al (.slice (some ⟨gb,0,none⟩) m m))∧w.heap.size<=gb∧VB wr gb (m*3) (zes (zgg S7 k).1)∧G2 w wr rb g) (fun i _=>m - (intOf i).toNat)
   case atStart=>exact⟨0,_,Nat.zero_le _,rfl,HS9.out.2.2.1,HS9.out.2.2.2.1,HS9.out.2.2.2.2.1,HS9.out.2.2.2.2.2⟩
   case round =>
    obtain⟨k,gb,hk,rfl,hWr,hB,hN,hGr⟩:=hrel;have HGr:=lh hGr;have v32:=hWr.2.2.1.cell 32 _ (zbl E2 al (.slice (some ⟨gb,0,none⟩) m m));clear hGr;by_cases hlt:k<m
    · have hb:=HB.out k;have hL:=zgZ S7 k;obtain⟨st,hst⟩:∃ st,st=(zgg S7 k).2:=⟨_,rfl⟩;obtain⟨L,hLL⟩:∃ L,L=(zgg S7 k).1:=⟨_,rfl⟩;have e2:(zgg S7 (k+1)).2=(rdG st).2:=by rw[hst];rfl
      have e1:(zgg S7 (k+1)).1=L++[(rdG st).1]:=by rw[hst,hLL];rfl
      rw[<-hst] at hWr hb;rw[<-hLL] at hN hL;clear hst hLL;obtain⟨sa,hsa⟩:∃ sa,sa=(Rd.txt 200 st).2:=⟨_,rfl⟩;obtain⟨sb,hsb⟩:∃ sb,sb=(Rd.boo sa).2:=⟨_,rfl⟩;have ba:sa.1.length<=1000:=by rw[hsa];exact Nat.le_trans (Rd.txt_len 200 st).1 hb
      have bb:sb.1.length<=1000:=by rw[hsb];exact Nat.le_trans (Rd.boo_len sa) ba
      have eG:rdG st=((⟨(Rd.txt 200 st).1.toArray⟩,(Rd.boo sa).1,((clip (Rd.num sb).1:Nat):Int)),(Rd.num sb).2):=by rw[hsb,hsa];rfl
      rw[eG] at e1 e2;have t1:=fun (W:World) (hW:RS W c rb g st (E2.vals al (.slice (some ⟨gb,0,none⟩) m m))) (F:Nat->Value) (hV:VB W gb (m*3) F)=>zlq c rb ⟨gb,k*3,none⟩ _ st W (by omega) hW.1 hW.2.1 hW.2.2.2.2.2.2.2 (hV.1 (k*3) (by omega)) (hV.2.1 _) hV.2.2 (by show gb≠rb;omega)
      have t2:=fun (W:World) (hW:RS W c rb g sa (E2.vals al (.slice (some ⟨gb,0,none⟩) m m))) (F:Nat->Value) (hV:VB W gb (m*3) F)=>zjs c rb ⟨gb,k*3+1,none⟩ _ sa W (by omega) hW.1 hW.2.1 hW.2.2.2.2.2.2.2 (hV.1 (k*3+1) (by omega)) (hV.2.1 _) hV.2.2 (by show gb≠rb;omega)
      have t3:=fun (W:World) (hW:RS W c rb g sb (E2.vals al (.slice (some ⟨gb,0,none⟩) m m))) (F:Nat->Value) (hV:VB W gb (m*3) F)=>zdS c rb ⟨gb,k*3+2,none⟩ _ sb W (by omega) hW.1 hW.2.1 hW.2.2.2.2.2.2.2 (hV.1 (k*3+2) (by omega)) (hV.2.1 _) hV.2.2 (by show gb≠rb;omega)
      rw[<-hsa] at t1;rw[<-hsb] at t2;have T1:=lh t1;have T2:=lh t2;have T3:=lh t3;have EG1:=lh e1;have EG2:=lh e2;have HW:=lh hWr;have HN:=lh hN;have HLn:=lh hL;clear t1 t2 t3 e1 e2 eG hsa hsb hWr hN hL ba bb hb
      go_wp2_with (first
       | (go_at_call 79;(with_reducible refine (T1.out _ HW.out _ HN.out).mono ?_);rintro _ wq ⟨rfl,wy,t,ht,hR,hG,rfl⟩;have HS:=lh (znz HW.out hcw hrw hgw hB HN.out HGr.out hR hG (j:=k*3) (by omega) (.string t));have HT:=lh ht;clear hR hG ht)
       | (go_at_call 78;(with_reducible refine (T2.out _ HS.out.1 _ HS.out.2.1).mono ?_);rintro _ wq ⟨rfl,wz,hR,hG,rfl⟩;have HS2:=lh (znz HS.out.1 hcw hrw hgw hB HS.out.2.1 HS.out.2.2 hR hG (j:=k*3+1) (by omega) (.bool (Rd.boo sa).1));clear hR hG)
       | (go_at_call 90;(with_reducible refine (T3.out _ HS2.out.1 _ HS2.out.2.1).mono ?_);rintro _ wq ⟨rfl,wx,hR,hG,rfl⟩;have HS3:=lh (znz HS2.out.1 hcw hrw hgw hB HS2.out.2.1 HS2.out.2.2 hR hG (j:=k*3+2) (by omega) (.int .i64 (clip (Rd.num sb).1)));clear hR hG))
      go_roundw
      case rel =>
       refine⟨k+1,gb,by omega,by go_num,by rw[EG2.out];exact HS3.out.1,hB,?_,HS3.out.2.2⟩
       rw[EG1.out,<-zlR L _ k HLn.out,<-HT.out,Ds.mk_bl];exact HS3.out.2.1
      case measure=>simp [intOf];omega
    · have hkm:k=m:=by omega
      have HW8:Hid (RS wr c rb g (zgg S7 m).2 (E2.vals al (.slice (some ⟨gb,0,none⟩) m m))):=lh (by rw[hkm] at hWr;exact hWr);have HN8:Hid (VB wr gb (m*3) (zes (zgg S7 m).1)):=lh (by rw[hkm] at hN;exact hN);clear hWr hN;go_wp2_with fail
      go_end0
      exact⟨rfl,_,HW8.out,⟨HN8.out.gs (zgZ S7 m) (by omega),fun x hx=>by cases hx;exact hB⟩,HGr.out⟩
theorem zwe(c:UInt8):((c.toNat:Int)==32)=decide (c=32):=by
 rw[Bool.eq_iff_iff,beq_iff_eq,decide_eq_true_eq];constructor
 · intro h;exact UInt8.toNat_inj.1 (by show c.toNat=32;omega)
 · rintro rfl;rfl
theorem znv(s:ByteArray)(w:World)(hs:s.size<=1000) :
  Calls Tryz.prog 94 #[.string s,.int .u8 32] w fun e w'=>∃ t,e=.returned (.string t)∧Ds.bl t=Ek.trim (Ds.bl s)∧w'=w:=by
 go_enter Tryz.func94,Tryz.ntmps94
 go_wp2_with fail
 go_loopw [0] (fun v wr=>∃ (j:Nat) (t:ByteArray),j<=s.size∧v=.string t∧Ds.bl t=(Ds.bl s).take j∧Ek.tlen (Ds.bl s) s.size=Ek.tlen (Ds.bl s) j∧wr=w) (fun v _=>match v with|.string t=>t.size|_=>0)
 case atStart=>exact⟨s.size,s,Nat.le_refl _,rfl,by rw[<-Ds.bl_length,List.take_length],rfl,rfl⟩
 case round =>
  obtain⟨j,t,hj,rfl,ht,he,rfl⟩:=hrel;have hz:t.size=j:=by rw[<-Ds.bl_length,ht,List.length_take,Ds.bl_length];omega
  by_cases h0:0<j
  · have hlt:j - 1<t.size:=by omega
    have hb:=Ds.bl_get t (j - 1) hlt
    have hc:(Ds.bl s)[j - 1]?=some t[j - 1]:=by
     have h1:(Ds.bl t)[j - 1]?=(Ds.bl s)[j - 1]?:=by rw[ht,List.getElem?_take_of_lt (by omega)]
     rw[<-h1,List.getElem?_eq_getElem (by rw[Ds.bl_length];exact hlt),hb]
    obtain⟨i,rfl⟩:∃ i,j=i+1:=⟨j - 1,by omega⟩;simp only[Nat.add_sub_cancel] at hlt hb hc
    have hx:=zwe t[i];have HT:=lh ht;have HE:=lh he;have HC:=lh hc;clear ht he hc hb;by_cases h32:t[i]=32
    · rw[decide_eq_true h32] at hx;have H32:=lh h32;clear h32;go_wp2_with fail
      go_roundw
      case rel =>
       refine⟨i,t.extract 0 i,by omega,by go_num,?_,?_,trivial⟩
       · unfold Ds.bl at *;rw[ByteArray.data_extract];simp [HT.out,List.take_take]
       · rw[HE.out];exact Ek.tlen_yes _ _ (by rw[HC.out,H32.out])
      case measure=>simp;omega
    · rw[decide_eq_false h32] at hx;have H32:=lh h32;clear h32;go_wp2_with fail
      go_ret
      refine⟨t,rfl,?_,rfl⟩
      unfold Ek.trim;rw[Ds.bl_length,HE.out,Ek.tlen_no _ _ (by rw[HC.out];intro e;exact H32.out (Option.some.inj e))];exact HT.out
  · obtain rfl:j=0:=by omega
    have HT:=lh ht;have HE:=lh he;clear ht he;go_wp2_with fail
    go_ret
    refine⟨t,rfl,?_,rfl⟩
    unfold Ek.trim;rw[Ds.bl_length,HE.out];exact HT.out
theorem zeG(s:ByteArray)(w:World)(hs:s.size<=1000) :
  Calls Tryz.prog 30 #[.string s,.string ⟨#[32]⟩] w fun e w'=>∃ t,e=.returned (.string t)∧Ds.bl t=Ek.trim (Ds.bl s)∧w'=w:=by
 by_cases h0:s.size=0
 · have e0:s.toList.isEmpty=true:=zb7 _ h0;go_enter Tryz.func30,Tryz.ntmps30
   go_wp2_with fail
   go_ret
   refine⟨s,rfl,?_,rfl⟩
   have:Ds.bl s=[]:=List.length_eq_zero_iff.1 (by rw[Ds.bl_length];exact h0);rw[this];rfl
 · have e0:s.toList.isEmpty=false:=zbH _ (by omega);have ht:=fun W=>znv s W hs
   clear h0;go_enter Tryz.func30,Tryz.ntmps30
   go_wp2_with (go_at_call 94;(refine (ht _).mono ?_);rintro e w2 ⟨t,rfl,hb,rfl⟩;have HB:=lh hb;clear hb)
   go_ret
   exact⟨t,rfl,HB.out,rfl⟩
theorem zrz(k:Int)(h:0<=k∧k<=4):∃ A K B:Nat,Instr.findNow (.int .i64) (.int .i64 k) fe5.toList 0=some (some (k.toNat,.agg (zb5 ((Ek.letter k).toNat:Nat) A K B))):=by
 rcases (by omega:k=0∨k=1∨k=2∨k=3∨k=4) with rfl|rfl|rfl|rfl|rfl
 · exact⟨34,73,74,rfl⟩
 · exact⟨75,76,80,rfl⟩
 · exact⟨83,85,86,rfl⟩
 · exact⟨87,89,91,rfl⟩
 · exact⟨17,92,93,rfl⟩
theorem zlU(k:Int)(h:¬ (0<=k∧k<=4)):Instr.findNow (.int .i64) (.int .i64 k) fe5.toList 0=some none:=by
 have h0:(k==0)=false:=by rw[beq_eq_false_iff_ne];omega
 have h1:(k==1)=false:=by rw[beq_eq_false_iff_ne];omega
 have h2:(k==2)=false:=by rw[beq_eq_false_iff_ne];omega
 have h3:(k==3)=false:=by rw[beq_eq_false_iff_ne];omega
 have h4:(k==4)=false:=by rw[beq_eq_false_iff_ne];omega
 simp [Instr.findNow,Instr.sameNow,fe5,h0,h1,h2,h3,h4]
theorem zfC(c:UInt8):∀ n,Lib.repeatL [c] n=List.replicate n c
 | 0=>rfl
 | n+1=>by rw[Lib.repeatL,zfC c n];rfl
theorem znb(s:ByteArray)(hs:s.size<=31)(W:World):Calls Tryz.prog 130 #[.string ⟨#[32]⟩,.int .i64 (31 - (s.size:Int))] W fun e w'=>∃ t,e=.returned (.string t)∧Ds.bl t=List.replicate (31 - s.size) 32∧t.size<=31∧Below W.heap.size W w':=by
 have h:=Tryz.strings_Repeat ⟨#[32]⟩ (31 - s.size) W (by omega) (by show 1*(31 - s.size)<=_;omega);rw[show ((31 - s.size:Nat):Int)=31 - (s.size:Int) by omega] at h;refine h.mono ?_
 rintro e w' ⟨rfl,hb⟩;have hq:Ds.bl ⟨(Lib.repeatL (⟨#[32]⟩:ByteArray).data.toList (31 - s.size)).toArray⟩=List.replicate (31 - s.size) 32:=by rw[Ds.bl_mk];exact zfC 32 _
 refine⟨_,rfl,hq,?_,hb⟩
 rw[<-Ds.bl_length,hq,List.length_replicate];omega
theorem zrk(c:UInt8)(W:World)(b:Nat)(h:W.cell? ⟨b,0,none⟩=some (.int .u8 (c.toNat:Nat))) :
  (convert 157 9 (.slice (some ⟨b,0,none⟩) 1 1)).run Tryz.prog W=.ok (.string ⟨#[c]⟩) W:=by
 refine run_convert_bytes_back (P:=Tryz.prog) W 157 9 5 ⟨b,0,none⟩ 1 [c] Tryz.underlying157 Tryz.underlying5 Tryz.underlying9 ?_
 intro j hj;obtain rfl:j=0:=by simpa using hj
 simpa [Addr.add] using h
theorem zkX{X w2:World}{v:Value}{t:TypeId}(hb:Below ((X.alloc (.cells #[v] t)).drew).heap.size ((X.alloc (.cells #[v] t)).drew) w2):w2.cell? ⟨X.heap.size,0,none⟩=some v:=by
 rw[hb.cell (p:=⟨X.heap.size,0,none⟩) (by show X.heap.size<_;simp)];show (X.alloc (.cells #[v] t)).cell? ⟨X.heap.size,0,none⟩=_
 rw[cell_of_row _ X.heap.size 0 _ t (0,0) (heap_alloc_new X _)];rfl
theorem zpU(k:Int)(s:ByteArray)(w:World) :
  Calls Tryz.prog 70 #[.int .i64 k,.string s] w fun r w'=>∃ t,r=.returned (.string t)∧Ds.bl t=Ek.key k (Ds.bl s)∧Below w.heap.size w w':=by
 by_cases hk:0<=k∧k<=4
 · obtain⟨A,K,B,hf⟩:=zrz k hk;have hl:=zoE (w.alloc (.map fe5 5)) w.heap.size k _ _ (heap_alloc_new w _) hf;have hi:Ek.isKind k=true:=by unfold Ek.isKind;simp;omega
   unfold zb5 at hl;by_cases h31:s.size<=31
   · have hr:=znb s h31;have D:=lh (Ek.key_yes k (Ds.bl s) hk (by rw[Ds.bl_length];exact h31));have HR:=lh hr;clear hr hf hk hi;generalize hc:Ek.letter k=c at hl D;clear hc;have hcv:=zrk c;have l1:¬ 9223372036854775807<1+s.size:=by omega
     have hw31:IntKind.i64.wrap (31 - (s.size:Int))=31 - (s.size:Int):=IntWalk.i64_in _ ⟨by omega,by omega⟩;go_enter Tryz.func70,Tryz.ntmps70
     go_wp2_with (go_at_call 29;(with_reducible refine (zco _).mono ?_);rintro _ w1 ⟨rfl,rfl⟩)
     go_region_law (first|(go_simp;go_at_call 130;(with_reducible refine (HR.out _).mono ?_);rintro _ w2 ⟨t,rfl,ht,hz,hb⟩;have HT:=lh ht;have l2:¬ 9223372036854775807<1+s.size+t.size:=(by omega);have B2:=Below.trans (show Below w.heap.size w _ by exact zbo) (hb.mono (by simp;try omega));have z2:=B2.size;have c1:w2.cell? ⟨w.heap.size+1,0,none⟩=some (.int .u8 (c.toNat:Nat)):=((hb.cell (p:=⟨w.heap.size+1,0,none⟩) (by show w.heap.size+1<_;simp)).trans (by simp [go_sem]));(first|(have cb:w2.cell? ⟨w.heap.size+1+1,0,none⟩=some (.int .u8 (c.toNat:Nat)):=(by simpa using zkX hb))|skip);clear ht))
     all_goals
      go_wp2
      go_ret
      refine⟨_,rfl,?_,by exact zbo⟩
      rw[D.out];unfold Ek.pad;rw[Ds.bl_length,<-HT.out];simp [Ds.bl]
   · have D:=lh (show Ek.key k (Ds.bl s)=[] by unfold Ek.key;rw[if_neg (by rw[Ds.bl_length];omega)]);clear hf hk hi;generalize hc:Ek.letter k=c at hl;clear hc;go_enter Tryz.func70,Tryz.ntmps70
     go_wp2_with (go_at_call 29;(with_reducible refine (zco _).mono ?_);rintro _ w1 ⟨rfl,rfl⟩)
     go_ret
     exact⟨_,rfl,by rw[D.out];rfl,by exact zbo⟩
 · have hf:=zlU k hk;have hl:=zmz (w.alloc (.map fe5 5)) w.heap.size k _ (heap_alloc_new w _) hf zhF;have D:=lh (show Ek.key k (Ds.bl s)=[] by unfold Ek.key Ek.isKind;rw[if_neg (by simp;omega)]);clear hf hk;go_enter Tryz.func70,Tryz.ntmps70
   go_wp2_with (go_at_call 29;(with_reducible refine (zco _).mono ?_);rintro _ w1 ⟨rfl,rfl⟩)
   go_ret
   exact⟨_,rfl,by rw[D.out];rfl,by exact zbo⟩
section
open Go.ChangeMaps (setBlock)
def wk(k:ByteArray × Bool):Value:=.agg #[.string k.1,.bool k.2]
def wents:List (ByteArray × Bool)->Nat->List MapEntry
 | [],_=>[]
 | k::r,i=>⟨wk k,.bool true,i⟩::wents r (i+1)
def went(ks:List (ByteArray × Bool)):Array MapEntry:=(wents ks 0).toArray
theorem zgk(k:ByteArray × Bool):∀ (ks:List (ByteArray × Bool)) (i:Nat),wents (ks++[k]) i=wents ks i++[⟨wk k,.bool true,i+ks.length⟩]
 | [],i=>rfl
 | a::r,i=>by rw[List.cons_append,wents,wents,zgk k r (i+1),List.length_cons,List.cons_append,Nat.add_assoc,Nat.add_comm 1]
theorem zvB(a b:ByteArray × Bool)(w:World):(Op.equal 207 (wk a) (wk b)).run Tryz.prog w=.ok (decide (a=b)) w:=by
 obtain⟨a1,a2⟩:=a;obtain⟨b1,b2⟩:=b;show (Op.equalIn (9999+1) 207 (.agg #[.string a1,.bool a2]) (.agg #[.string b1,.bool b2])).run Tryz.prog w=_
 rw[run_equalIn_struct w 9999 207 _ _ (by simp [Program.fieldsOf,Tryz.underlying207]) (by kernel_rfl)];simp [Program.fieldsOf,Tryz.underlying207,Op.eqFields,go_sem]
 have e:(a1.toList=b1.toList)=(a1=b1):=propext ⟨fun h=>by
  have h1:=Lib.toList_data a1;have h2:=Lib.toList_data b1;exact Ds.bl_inj (h1.symm.trans (h.trans h2)),fun h=>by rw[h]⟩
 by_cases h1:a1=b1
 · subst h1;by_cases h2:a2=b2 <;> simp [h2]
 · rw[if_neg (fun h=>h1 (e ▸ h))];simp [h1]
theorem ziJ(k:ByteArray × Bool)(w:World):∀ (ks:List (ByteArray × Bool)) (i j:Nat),
  (k ∉ ks->(Instr.findAsking 207 (wk k) (wents ks i) j).run Tryz.prog w=.ok none w)∧(k∈ks->∃ n,(Instr.findAsking 207 (wk k) (wents ks i) j).run Tryz.prog w=.ok (some (n,.bool true)) w)
 | [],i,j=>⟨fun _=>by simp [wents,Instr.findAsking],fun h=>by simp at h⟩
 | a::r,i,j=>by
   have ih:=ziJ k w r (i+1) (j+1);have he:=zvB k a w;by_cases h:k=a
   · rw[decide_eq_true h] at he;refine⟨fun h2=>absurd (by rw[h];exact List.mem_cons_self) h2,fun _=>⟨j,by simp [wents,Instr.findAsking,he]⟩⟩
   · rw[decide_eq_false h] at he;refine⟨fun h2=>?_,fun h2=>?_⟩
     · have:=ih.1 (fun q=>h2 (List.mem_cons_of_mem _ q));simp [wents,Instr.findAsking,he,this]
     · obtain⟨n,hn⟩:=ih.2 ((List.mem_cons.1 h2).resolve_left h);exact⟨n,by simp [wents,Instr.findAsking,he,hn]⟩
theorem ztE(k:ByteArray × Bool)(b:Bool)(w:World):(Instr.checkKey b 10000 207 (wk k)).run Tryz.prog w=.ok () w:=by
 obtain⟨k1,k2⟩:=k;cases b <;> kernel_rfl
theorem ztU(k:ByteArray × Bool)(es:List MapEntry)(w:World):(Instr.findKey 207 (wk k) es).run Tryz.prog w=(Instr.findAsking 207 (wk k) es).run Tryz.prog w :=
 run_findKey_eq w (by rw[Tryz.underlying207]) _ _
theorem zui(w:World)(m n:Nat)(ks:List (ByteArray × Bool))(k:ByteArray × Bool)(hb:w.heap[m]?=some (.map (went ks) n)) :
  (Instr.lookup 205 (.map (some m)) (wk k) false).run Tryz.prog w=.ok (.bool (Vp.among k ks)) w:=by
 have hck:=fun b=>ztE k b w
 have hf:=ztU k (wents ks 0) w;have hk:=ziJ k w ks 0 0;cases hc:Vp.among k ks
 rotate_left
 · obtain⟨j,h1⟩:=hk.2 ((zhk k ks).1 hc);simp [Instr.lookup,run_underlying Tryz.underlying205,MapKept.run_getObj_map hb,hck,went,hf,h1,Result.andThen]
 · have h1:=hk.1 (zjl k ks hc);simp [Instr.lookup,run_underlying Tryz.underlying205,MapKept.run_getObj_map hb,hck,went,hf,h1,Result.andThen]
theorem zvM(w:World)(m:Nat)(ks:List (ByteArray × Bool))(k:ByteArray × Bool)(hb:w.heap[m]?=some (.map (went ks) ks.length))(hc:Vp.among k ks=false) :
  (Instr.mapUpdate 205 (.map (some m)) (wk k) (.bool true)).run Tryz.prog w=.ok () (setBlock w m (.map (went (ks++[k])) (ks.length+1))):=by
 have hck:=ztE k false w;have hf:=ztU k (wents ks 0) w;have h1:=(ziJ k w ks 0 0).1 (zjl k ks hc);simp [Instr.mapUpdate,run_underlying Tryz.underlying205,MapKept.run_getObj_map hb,hck,went,hf,h1,MapKept.run_setObj_map _ hb,Result.andThen,setBlock,zgk]
theorem zcp(w:World)(m:Nat)(o:Obj)(h:m<w.heap.size):(setBlock w m o).heap[m]?=some o:=by simp [setBlock,h]
theorem zbx(w:World)(m k:Nat)(o:Obj)(h:k≠m):(setBlock w m o).heap[k]?=w.heap[k]?:=by
 simp only[setBlock,Array.getElem?_setIfInBounds]
 rw[if_neg (fun e=>h e.symm)]
theorem zdC{B:Nat}{w w':World}{m:Nat}(h:Below B w w')(hm:B<=m)(o:Obj):Below B w (setBlock w' m o) :=
 ⟨h.os,h.tape,h.output,by simpa [setBlock] using h.size,fun k hk=>(zbx w' m k o (by omega)).trans (h.block k hk)⟩
theorem ziO(g:List Gr)(k:Nat)(hk:k<g.length)(h:Vp.grAt g k=false):Vp.grs g=false:=by
 rw[Bool.eq_false_iff];intro e;rw[zfa e k hk] at h;cases h
theorem zrI(g:List Gr)(h:∀ j,j<g.length->Vp.grAt g j=true):Vp.grs g=true:=by
 unfold Vp.grs Ds.rest;simpa using h
theorem zon(g:List Gr)(k:Nat)(hk:k<g.length):Vp.grAt g k=(Vp.word (Ds.bl g[k].1)&&(Vp.rng 0 3 [g[k].2.2]&&!Vp.among (Vp.gk g[k]) ((g.take k).map Vp.gk))):=by
 unfold Vp.grAt;rw[List.getElem?_eq_getElem hk]
def PV(w wr:World)(cs:Array Value)(g:List Gr)(k:Nat):Prop :=
 Below w.heap.size w wr∧row wr w.heap.size=cs∧wr.heap[w.heap.size+1]?=some (.map (went ((g.take k).map Vp.gk)) ((g.take k).map Vp.gk).length)∧w.heap.size+2<=wr.heap.size
theorem zgX{w wr w2:World}{cs g3 k2:Array Value}{t1 t2:TypeId}{g:List Gr}{k:Nat}(h:PV w wr cs g k)(_:0<cs.size)(hb:Below ((wr.alloc (.cells g3 t1)).alloc (.cells k2 t2)).heap.size ((wr.alloc (.cells g3 t1)).alloc (.cells k2 t2)) w2) :
  PV w w2 cs g k∧(∀ i v,g3[i]?=some v->w2.cell? ⟨wr.heap.size,i,none⟩=some v)∧(∀ i v,k2[i]?=some v->w2.cell? ⟨wr.heap.size+1,i,none⟩=some v)∧wr.heap.size+2<=w2.heap.size:=by
 obtain⟨h1,h2,h4,h5⟩:=h;have s1:(wr.alloc (.cells g3 t1)).heap.size=wr.heap.size+1:=by simp
 have s2:((wr.alloc (.cells g3 t1)).alloc (.cells k2 t2)).heap.size=wr.heap.size+2:=by simp
 rw[s2] at hb;have hz:=hb.size;rw[s2] at hz
 have hk:∀ j,j<wr.heap.size->w2.heap[j]?=wr.heap[j]?:=fun j hj =>
  (hb.block j (by omega)).trans ((heap_alloc_old _ _ (by omega)).trans (heap_alloc_old _ _ hj))
 refine⟨⟨⟨hb.os.trans h1.os,hb.tape.trans h1.tape,hb.output.trans h1.output,by have:=h1.size;omega,fun j hj=>(hk j (by omega)).trans (h1.block j hj)⟩,?_,(hk _ (by omega)).trans h4,by omega⟩,fun i v hv=>?_,fun i v hv=>?_,hz⟩
 · unfold row at *;rw[hk _ (by omega)];exact h2
 · rw[hb.cell (p:=⟨wr.heap.size,i,none⟩) (by show wr.heap.size<_;omega),World.cell?_of_block (a:=⟨wr.heap.size,i,none⟩) (heap_alloc_old _ _ (by show wr.heap.size<_;omega)),cell_of_row _ wr.heap.size i g3 t1 (0,0) (heap_alloc_new wr _)];exact hv
 · have:=cell_of_row _ _ i k2 t2 (0,0) (heap_alloc_new (wr.alloc (.cells g3 t1)) (.cells k2 t2));rw[s1] at this;rw[hb.cell (p:=⟨wr.heap.size+1,i,none⟩) (by show wr.heap.size+1<_;omega),this];exact hv
theorem zsA{w w2:World}{cs:Array Value}{g:List Gr}{k:Nat}(h:PV w w2 cs g k)(hk:k<g.length)(o:Obj) :
  PV w (setBlock (w2.alloc o) (w.heap.size+1) (.map (went ((g.take k).map Vp.gk++[Vp.gk g[k]])) (((g.take k).map Vp.gk).length+1))) cs g (k+1):=by
 obtain⟨h1,h2,h4,h5⟩:=h
 have hg:(g.take (k+1)).map Vp.gk=(g.take k).map Vp.gk++[Vp.gk g[k]]:=by
  rw[List.take_succ_eq_append_getElem hk,List.map_append];rfl
 refine⟨zdC (h1.alloc (by omega) o) (by omega) _,?_,?_,by simp [setBlock];omega⟩
 · unfold row at *;rw[zbx _ _ _ _ (by omega),heap_alloc_old _ _ (by omega)];exact h2
 · rw[zcp _ _ _ (by simp;omega),hg,List.length_append];rfl
theorem ziv{wr w4:World}{v:Value}{ob:Obj}{a i:Nat}(hb:Below (wr.alloc ob).heap.size (wr.alloc ob) w4)(h:wr.cell? ⟨a,i,none⟩=some v)(ha:a<wr.heap.size):w4.cell? ⟨a,i,none⟩=some v:=by
 rw[hb.cell (p:=⟨a,i,none⟩) (by show a<_;simp;omega),World.cell?_of_block (a:=⟨a,i,none⟩) (heap_alloc_old wr ob ha)];exact h
attribute [local go_sem] zaC zaE zbg zbs zbl
theorem ztd(e:En)(al gr:Value)(g:List Gr)(w:World)(hm:MaxL w)(hg:GS w gr g) :
  Calls Tryz.prog 93 #[.agg (e.vals al gr)] w fun r w'=>r=.returned (.bool (Vp.prof e g))∧Below w.heap.size w w':=by
 obtain⟨aa,ac,rfl,hz,hcells⟩:=hg;have hw:=fun (s:ByteArray) (W:World) (h:Below w.heap.size w W)=>zhd s W (hm.below h)
 have hr:=fun (n:Int) (b:Nat) (W:World) h=>zcV 0 3 n b W h
 have HW:=lh hw;have HR:=lh hr;have HC:=lh hcells;clear hw hr hcells;have hmk:=run_makeMap (P:=Tryz.prog) 205 (w.alloc (.cells (e.vals al (.slice aa g.length ac)) 40));go_enter Tryz.func93,Tryz.ntmps93
 go_wp2_with fail
 go_loopw [11] (fun i wr=>∃ k:Nat,k<=g.length∧i=.int .i64 k∧PV w wr (e.vals al (.slice aa g.length ac)) g k∧∀ j,j<k->Vp.grAt g j=true) (fun i _=>g.length - (intOf i).toNat)
 case atStart =>
  refine⟨0,Nat.zero_le _,rfl,⟨by exact zbo,?_,?_,by simp⟩,fun j h=>by omega⟩
  · exact zcP (t:=40) (fr:=(0,0)) ((heap_alloc_old _ _ (by simp)).trans (heap_alloc_new w _))
  · have:=heap_alloc_new (w.alloc (.cells (e.vals al (.slice aa g.length ac)) 40)) (.map #[] 0);show _=some (Obj.map #[] 0)
    simpa using this
 case round =>
  obtain⟨k,hk,rfl,hPV,hall⟩:=hrel;have HA:=lh hall;clear hall;have B0:=hPV.1;have z0:=B0.size;have z2:=hPV.2.2.2;have HPV:=lh hPV;by_cases hlt:k<g.length
  · obtain⟨ab,ao,rfl,hab,hcl⟩:=HC.out (by omega);obtain⟨p0,p1,p2⟩:=hcl k hlt;have q0:=(B0.cell (p:=⟨ab,ao+k*3,none⟩) hab).trans p0;have q1:=(B0.cell (p:=⟨ab,ao+k*3+1,none⟩) hab).trans p1;have q2:=(B0.cell (p:=⟨ab,ao+k*3+2,none⟩) hab).trans p2;have hv:=zon g k hlt;obtain⟨Gk,hG⟩:∃ G,G=g[k]:=⟨_,rfl⟩;rw[<-hG] at hv q0 q1 q2;have HGk:=lh hG;clear hG hPV p0 p1 p2 hcl;obtain⟨gw,gg,gl⟩:=Gk;simp only at hv q0 q1 q2
    obtain⟨c,hc⟩:∃ c,c=Vp.among (gw,gg) ((g.take k).map Vp.gk):=⟨_,rfl⟩;rw[show Vp.gk (gw,gg,gl)=(gw,gg) from rfl,<-hc] at hv;have HCt:=lh hc;clear hc;have hx:=HW.out gw;have hy:=HR.out gl;generalize Vp.word (Ds.bl gw)=x at hv hx;generalize Vp.rng 0 3 [gl]=y at hv hy;have HX:=lh hx;have HY:=lh hy;have HV:=lh hv;clear hx hy hv;cases x
    · go_wp2_with (first|(go_at_call 82;(with_reducible refine (HX.out _ (by exact zbo)).mono ?_);rintro _ w2 ⟨rfl,hb⟩;have P2:=zgX HPV.out (by simp [zaa]) hb;have d2:=P2.2.1 2 _ rfl;clear hb))
      go_ret
      exact⟨zaF (by unfold Vp.prof;rw[ziO g k hlt (by rw[HV.out];rfl)];rfl),P2.1.1⟩
    cases y
    · go_wp2_with (first|(go_at_call 82;(with_reducible refine (HX.out _ (by exact zbo)).mono ?_);rintro _ w2 ⟨rfl,hb⟩;have P2:=zgX HPV.out (by simp [zaa]) hb;have d2:=P2.2.1 2 _ rfl;have B2:=P2.1.1;have zz:=P2.2.2.2;clear hb)|((with_reducible refine (HY.out _ _ (by simp [go_sem])).mono ?_);rintro _ w3 ⟨rfl,rfl⟩))
      go_ret
      exact⟨zaF (by unfold Vp.prof;rw[ziO g k hlt (by rw[HV.out];rfl)];rfl),by exact zbo⟩
    cases c
    · have hlw:∀ W:World,W.heap[w.heap.size+1]?=some (.map (went ((g.take k).map Vp.gk)) ((g.take k).map Vp.gk).length)->(Instr.lookup 205 (.map (some (w.heap.size+1))) (.agg #[.string gw,.bool gg]) false).run Tryz.prog W=.ok (.bool false) W:=fun W h=>by have q:=zui W _ _ _ (gw,gg) h;rw[<-HCt.out] at q;exact q
      have hmw:∀ W:World,W.heap[w.heap.size+1]?=some (.map (went ((g.take k).map Vp.gk)) ((g.take k).map Vp.gk).length)->(Instr.mapUpdate 205 (.map (some (w.heap.size+1))) (.agg #[.string gw,.bool gg]) (.bool true)).run Tryz.prog W=.ok () (setBlock W (w.heap.size+1) (.map (went ((g.take k).map Vp.gk++[(gw,gg)])) (((g.take k).map Vp.gk).length+1))):=fun W h=>zvM W _ _ (gw,gg) h HCt.out.symm
      have HLW:=lh hlw;have HMW:=lh hmw;clear hlw hmw;go_wp2_with (first|(go_at_call 82;(with_reducible refine (HX.out _ (by exact zbo)).mono ?_);rintro _ w2 ⟨rfl,hb⟩;have P2:=zgX HPV.out (by simp [zaa]) hb;have d2:=P2.2.1 2 _ rfl;have B2:=P2.1.1;have zz:=P2.2.2.2;have e0:=P2.2.2.1 0 _ rfl;have e1:=P2.2.2.1 1 _ rfl;have hmp:=P2.1.2.2.1;have hl:=(fun o:Obj=>HLW.out (w2.alloc o) ((heap_alloc_old w2 o (by omega)).trans hmp));have hu:=(fun o:Obj=>HMW.out (w2.alloc o) ((heap_alloc_old w2 o (by omega)).trans hmp));have zz8:wr.heap.size<w2.heap.size:=(by omega);have zz9:wr.heap.size+1<w2.heap.size:=(by omega);clear hb hmp)|((with_reducible refine (HY.out _ _ (by simp [go_sem])).mono ?_);rintro _ w3 ⟨rfl,rfl⟩))
      go_roundw
      case rel =>
       refine⟨k+1,by omega,by go_num,?_,?_⟩
       · have:=zsA P2.1 hlt (.cells #[.int .i64 gl] 3);rw[<-HGk.out,show ((g.take k).map Vp.gk).length=k by rw[List.length_map,List.length_take];omega,List.map_take] at this;exact this
       · intro j hj;by_cases e:j=k
         · subst e;rw[HV.out];rfl
         · exact HA.out j (by omega)
      case measure=>simp [intOf];omega
    · have hlw:∀ W:World,W.heap[w.heap.size+1]?=some (.map (went ((g.take k).map Vp.gk)) ((g.take k).map Vp.gk).length)->(Instr.lookup 205 (.map (some (w.heap.size+1))) (.agg #[.string gw,.bool gg]) false).run Tryz.prog W=.ok (.bool true) W:=fun W h=>by have q:=zui W _ _ _ (gw,gg) h;rw[<-HCt.out] at q;exact q
      have HLW:=lh hlw;clear hlw;go_wp2_with (first|(go_at_call 82;(with_reducible refine (HX.out _ (by exact zbo)).mono ?_);rintro _ w2 ⟨rfl,hb⟩;have P2:=zgX HPV.out (by simp [zaa]) hb;have d2:=P2.2.1 2 _ rfl;have B2:=P2.1.1;have zz:=P2.2.2.2;have e0:=P2.2.2.1 0 _ rfl;have e1:=P2.2.2.1 1 _ rfl;have hmp:=P2.1.2.2.1;have hl:=(fun o:Obj=>HLW.out (w2.alloc o) ((heap_alloc_old w2 o (by omega)).trans hmp));have zz8:wr.heap.size<w2.heap.size:=(by omega);have zz9:wr.heap.size+1<w2.heap.size:=(by omega);clear hb hmp)|((with_reducible refine (HY.out _ _ (by simp [go_sem])).mono ?_);rintro _ w3 ⟨rfl,rfl⟩))
      go_ret
      exact⟨zaF (by unfold Vp.prof;rw[ziO g k hlt (by rw[HV.out];rfl)];rfl),by exact zbo⟩
  · have R0:=hPV.2.1;have v28:=zah R0 28 _ (zbg e al (.slice aa g.length ac));have v31:=zah R0 31 _ (zbs e al (.slice aa g.length ac));have v32:=zah R0 32 _ (zbl e al (.slice aa g.length ac));have zz1:w.heap.size<wr.heap.size:=by omega
    have zz2:w.heap.size≠wr.heap.size:=by omega
    have hgs:Vp.grs g=true:=zrI g fun j hj=>HA.out j (by omega)
    have hx:=HR.out e.lev;have hw:=HW.out e.owner
    have hD:Vp.prof e g=(Vp.rng 0 3 [e.lev]&&(((Ds.bl e.owner).isEmpty || Vp.word (Ds.bl e.owner))&&decide (g.length<=8))):=by
     unfold Vp.prof Vp.own;rw[hgs,Bool.true_and]
    generalize Vp.rng 0 3 [e.lev]=x at hx hD;generalize Vp.word (Ds.bl e.owner)=y at hw hD;have HX:=lh hx;have HY:=lh hw;have HD:=lh hD;clear hx hw hgs hPV R0 hD;cases x
    · go_wp2_with ((with_reducible refine (HX.out _ _ (by simp [go_sem])).mono ?_);rintro _ w3 ⟨rfl,rfl⟩)
      go_ret
      exact⟨zaF (by rw[HD.out];rfl),by exact zbo⟩
    by_cases h0:e.owner.size=0
    · have e0:e.owner.toList.isEmpty=true:=zb7 _ h0;have HE:=lh (show (Ds.bl e.owner).isEmpty=true by rw[List.isEmpty_iff_length_eq_zero,Ds.bl_length];exact h0);clear h0;go_wp2_with ((with_reducible refine (HX.out _ _ (by simp [go_sem])).mono ?_);rintro _ w3 ⟨rfl,rfl⟩)
      go_ret
      exact⟨zaF (by rw[HD.out,HE.out,Bool.true_or,Bool.true_and,Bool.true_and,Bool.eq_iff_iff,decide_eq_true_eq,decide_eq_true_eq];omega),by exact zbo⟩
    · have e0:e.owner.toList.isEmpty=false:=zbH _ (by omega);have HE:=lh (show (Ds.bl e.owner).isEmpty=false by rw[Bool.eq_false_iff,Ne,List.isEmpty_iff_length_eq_zero,Ds.bl_length];exact h0);clear h0;cases y
      · go_wp2_with (first|((with_reducible refine (HX.out _ _ (by simp [go_sem])).mono ?_);rintro _ w3 ⟨rfl,rfl⟩)|(go_at_call 82;(with_reducible refine (HY.out _ (by exact zbo)).mono ?_);rintro _ w4 ⟨rfl,hb⟩;have B4:=Below.trans (show Below w.heap.size w _ by exact zbo) (hb.mono (by simp;omega));clear hb))
        go_ret
        exact⟨zaF (by rw[HD.out,HE.out];rfl),B4⟩
      · go_wp2_with (first|((with_reducible refine (HX.out _ _ (by simp [go_sem])).mono ?_);rintro _ w3 ⟨rfl,rfl⟩)|(go_at_call 82;(with_reducible refine (HY.out _ (by exact zbo)).mono ?_);rintro _ w4 ⟨rfl,hb⟩;have c32:=ziv hb v32 (by omega);have B4:=Below.trans (show Below w.heap.size w _ by exact zbo) (hb.mono (by simp;omega));clear hb))
        go_ret
        exact⟨zaF (by rw[HD.out,HE.out,Bool.false_or,Bool.true_and,Bool.true_and,Bool.eq_iff_iff,decide_eq_true_eq,decide_eq_true_eq];omega),B4⟩
end
section
theorem zfl:zdv 34:=enters_of Tryz.func34 (by kernel_rfl) rfl
theorem ziH:zdv 17:=enters_of Tryz.func17 (by kernel_rfl) rfl
theorem zgC:zdv 73:=enters_of Tryz.func73 (by kernel_rfl) rfl
theorem zhA:zdv 74:=enters_of Tryz.func74 (by kernel_rfl) rfl
theorem zgD:zdv 92:=enters_of Tryz.func92 (by kernel_rfl) rfl
theorem zhB:zdv 93:=enters_of Tryz.func93 (by kernel_rfl) rfl
theorem zlV(c rb g:Nat)(s:List UInt8 × Nat)(e:En)(gr:Value)(w:World)(h:RS w c rb g s (e.vals (.slice none 0 0) gr))(hs:s.1.length<=1000) :
  Calls Tryz.prog 73 #[.pointer (some ⟨c,0,none⟩),.pointer (some ⟨g,0,none⟩)] w fun r w'=>r=.returned (.tuple #[])∧∃ al',RS w' c rb g (zb3 e s).2.2 ((zb3 e s).1.vals al' gr)∧(IS w' al' (zb3 e s).2.1∧∀ x,al'.ownBlock=some x->w.heap.size<=x)∧G2 w w' rb g:=by
 rcases Nat.eq_zero_or_pos (cntv 4 (clip (Rd.num (Rd.boo (sq (Rd.txt 200 (Rd.txt 200 (Rd.num (Rd.boo (sq s 14)).2).2).2).2 2)).2).1)) with h0|h0
 · exact zof c rb g s e gr w h hs (lh h0)
 · exact zog c rb g s e gr w h hs h0
theorem znD(e:En)(al gr:Value)(l2:List Int)(w:World)(hI:IS w al l2)(h:DatOk e l2):Writes w 73 (e.vals al gr) (zcr e l2):=by
 intro W c g hB hc _ hW;have this:=zrD c g [] e al gr l2 w W hI hB hc hW (fun x hx=>by have:=h.n x hx;omega) e.cls.toNat e.cr.toNat e.ex.toNat e.used.toNat (Int.toNat_of_nonneg h.c.1).symm (Int.toNat_of_nonneg h.cr.1).symm (Int.toNat_of_nonneg h.ex.1).symm (Int.toNat_of_nonneg h.u.1).symm (by have a1:=h.c;have a2:=h.cr;have a3:=h.ex;have a4:=h.u;omega) (by have:=h.v;omega) (by have:=h.o;omega) h.nl4 (fun x hx=>by have:=h.nl x hx;omega) (by simp);rw[List.nil_append] at this;exact this
theorem znE(e:En)(al gr:Value)(g2:List Gr)(w:World)(hI:GS w gr g2)(h:ProfOk e g2):Writes w 92 (e.vals al gr) (zc9 e g2):=by
 intro W c g hB hc _ hW;have this:=zrE c g [] e al gr g2 w W hI hB hc hW h (by simp);rw[List.nil_append] at this;exact this
theorem IS.keep{w1 w2:World}{v:Value}{l:List Int}(h:IS w1 v l)(b:Nat)(ho:∀ x,v.ownBlock=some x->b<=x)(hs:w1.heap.size<=w2.heap.size)(hk:∀ k,b<=k->k<w1.heap.size->w2.heap[k]?=w1.heap[k]?):IS w2 v l:=by
 obtain⟨a,c,rfl,h2,h3⟩:=h;refine⟨a,c,rfl,h2,fun h0=>?_⟩
 obtain⟨bb,o,rfl,hlt,hc⟩:=h3 h0;have hb:=ho bb rfl;exact⟨bb,o,rfl,Nat.lt_of_lt_of_le hlt hs,fun k hk'=>(World.cell?_of_block (a:=⟨bb,o+k,none⟩) (hk bb hb hlt)).trans (hc k hk')⟩
theorem GS.keep{w1 w2:World}{v:Value}{l:List Gr}(h:GS w1 v l)(b:Nat)(ho:∀ x,v.ownBlock=some x->b<=x)(hs:w1.heap.size<=w2.heap.size)(hk:∀ k,b<=k->k<w1.heap.size->w2.heap[k]?=w1.heap[k]?):GS w2 v l:=by
 obtain⟨a,c,rfl,h2,h3⟩:=h;refine⟨a,c,rfl,h2,fun h0=>?_⟩
 obtain⟨bb,o,rfl,hlt,hc⟩:=h3 h0;have hb:=ho bb rfl;have q:=fun i=>World.cell?_of_block (w:=w1) (w':=w2) (a:=⟨bb,i,none⟩) (hk bb hb hlt)
 exact⟨bb,o,rfl,Nat.lt_of_lt_of_le hlt hs,fun k hk'=>⟨(q _).trans (hc k hk').1,(q _).trans (hc k hk').2.1,(q _).trans (hc k hk').2.2⟩⟩
theorem zaP{w:World}{v:Value}{l:List Int}(h:IS w v l):one v=true:=by obtain⟨a,c,rfl,_⟩:=h;rfl
theorem zaO{w:World}{v:Value}{l:List Gr}(h:GS w v l):one v=true:=by obtain⟨a,c,rfl,_⟩:=h;rfl
def PD(e:En)(l:List Int)(b:Nat)(w:World)(cs:Array Value):Prop:=∃ al,cs=(zkT e).vals al (.slice none 0 0)∧IS w al l∧∀ x,al.ownBlock=some x->b<=x
theorem PD.stable(e:En)(l:List Int):Stable (PD e l):=fun b _ _ _ ⟨al,he,hi,ho⟩ hs hk=>⟨al,he,hi.keep b ho hs hk,ho⟩
def PP(e:En)(l:List Gr)(b:Nat)(w:World)(cs:Array Value):Prop:=∃ gr,cs=(ziY e).vals (.slice none 0 0) gr∧GS w gr l∧∀ x,gr.ownBlock=some x->b<=x
theorem PP.stable(e:En)(l:List Gr):Stable (PP e l):=fun b _ _ _ ⟨al,he,hi,ho⟩ hs hk=>⟨al,he,hi.keep b ho hs hk,ho⟩
theorem zsI(e:En)(l:List Int)(w:World)(h:DatOk e l)(hl:(zcr e l).length<=1000):Reads w 73 (zcr e l) (zcells e.kind e.name) ([],0) (PD e l):=by
 intro W c rb g _ _ _ _ hR;refine (zlV c rb g (zcr e l,0) ({ En.zero with kind:=e.kind,name:=e.name }:En) _ W hR hl).mono ?_
 rintro r w' ⟨rfl,al',hR',hI,hG⟩;have hb:=zke e l [] h;rw[List.append_nil] at hb;rw[hb] at hR' hI;exact⟨rfl,hG,_,hR',zaa _ _ _,zau _ _ _ (zaP hI.1) rfl,al',rfl,hI.1,hI.2⟩
theorem zsJ(e:En)(l:List Gr)(w:World)(h:ProfOk e l)(hl:(zc9 e l).length<=1000):Reads w 92 (zc9 e l) (zcells e.kind e.name) ([],0) (PP e l):=by
 intro W c rb g _ _ _ _ hR;refine (zlW c rb g (zc9 e l,0) ({ En.zero with kind:=e.kind,name:=e.name }:En) _ W hR hl).mono ?_
 rintro r w' ⟨rfl,gr',hR',hI,hG⟩;have hb:=zkf e l [] h;rw[List.append_nil] at hb;rw[hb] at hR' hI;exact⟨rfl,hG,_,hR',zaa _ _ _,zau _ _ _ rfl (zaO hI.1),gr',rfl,hI.1,hI.2⟩
theorem zlh(e:En)(l:List Int)(h:DatOk e l):(zcr e l).length<=1000:=by
 have a1:=zdX _ (zdr _ h.n);have a2:=zdX _ (zdr _ h.nl);rw[List.length_map] at a1 a2;have hz:(zfU e).length=14:=rfl;have l4:=h.nl4;have q1:=h.c;have q2:=h.v;have q3:=h.o;have q4:=h.cr;have q5:=h.ex;have q6:=h.u;have c1:=za5 e.cls.toNat (by omega);have c2:=za5 e.vol.size (by omega);have c3:=za5 e.own.size (by omega);have c4:=za5 e.cr.toNat (by omega);have c5:=za5 e.ex.toNat (by omega);have c6:=za5 e.used.toNat (by omega);have c7:=za5 l.length (by omega);unfold zcr zhm;simp only[encs,List.length_append,List.length_cons,List.length_nil,Ds.bl_length]
 omega
theorem zpt(e:En)(al gr:Value)(l2:List Int)(g2:List Gr)(w:World)(hk:e.kind=0)(hm:MaxL w)(hT:Tab w)(h1:IS w al l2)(h2:GS w gr g2) :
  Calls Tryz.prog 98 #[.agg (e.vals al gr)] w fun r w'=>r=.returned (.bool (okD e l2 g2))∧Below w.heap.size w w':=by
 have hf:Instr.findNow (.int .i64) (.int .i64 e.kind) fe5.toList 0=some (some (0,.agg (zb5 (68:Nat) 34 73 74))):=by rw[hk];rfl
 have hn:=fun W (b:Below w.heap.size w W)=>zbh e.name W (hm.below b)
 have hv:=fun W (b:Below w.heap.size w W)=>zta e al gr l2 W (hm.below b) (hT.below b) (h1.below b)
 unfold okD;cases hx:Ds.name (Ds.bl e.name)
 · rw[hx] at hn;exact zfJ 68 _ _ _ 0 e al gr w zfl hf hn
 · rw[hx] at hn;cases hy:Vp.dat e l2
   · rw[hy] at hv;exact zdk 68 _ _ _ 0 e al gr w zfl zhA hf hn hv
   · rw[hy] at hv;have hd:=(zhr e l2 hy).1;refine zfI 68 _ _ _ 0 e al gr (zcr e l2) ([],0) _ _ w zfl zhA zgC hf hn hv (fun W b=>znD e al gr l2 W (h1.below b) hd) (fun W _=>zsI e l2 W hd (zlh e l2 hd)) (PD.stable e l2) rfl ?_
     rintro W b cs' hb ⟨al',rfl,hi,_⟩;exact zer (zkT e) e _ _ al gr l2 l2 [] g2 W hi (h1.below hb) (GS.nil W) (h2.below hb)
theorem zpx(e:En)(al gr:Value)(l2:List Int)(g2:List Gr)(w:World)(hk:e.kind=4)(hm:MaxL w)(h1:IS w al l2)(h2:GS w gr g2) :
  Calls Tryz.prog 98 #[.agg (e.vals al gr)] w fun r w'=>r=.returned (.bool (okP e l2 g2))∧Below w.heap.size w w':=by
 have hf:Instr.findNow (.int .i64) (.int .i64 e.kind) fe5.toList 0=some (some (4,.agg (zb5 (80:Nat) 17 92 93))):=by rw[hk];rfl
 have hn:=fun W (b:Below w.heap.size w W)=>zeJ e.name W (hm.below b)
 have hv:=fun W (b:Below w.heap.size w W)=>ztd e al gr g2 W (hm.below b) (h2.below b)
 unfold okP;cases hx:Ds.pat (Ds.bl e.name)
 · rw[hx] at hn;exact zfJ 80 _ _ _ 4 e al gr w ziH hf hn
 · rw[hx] at hn;cases hy:Vp.prof e g2
   · rw[hy] at hv;exact zdk 80 _ _ _ 4 e al gr w ziH zhB hf hn hv
   · rw[hy] at hv;have hd:=zfA e g2 hy
     have hbl:(zc9 e g2).length<=1000:=by
      have z1:=za5 e.lev.toNat (by have:=hd.1.l;omega);have z2:=za5 e.owner.size (by have:=hd.2.2.1;omega);have z3:=za5 g2.length (by have:=hd.1.g8;omega);have z4:=ziP g2 hd.2.2.2;have z5:=hd.1.g8;have z6:=hd.2.2.1;unfold zc9;simp only[List.length_append,Ds.bl_length]
      omega
     refine zfI 80 _ _ _ 4 e al gr (zc9 e g2) ([],0) _ _ w ziH zhB zgD hf hn hv (fun W b=>znE e al gr g2 W (h2.below b) hd.1) (fun W _=>zsJ e g2 W hd.1 hbl) (PP.stable e g2) rfl ?_
     rintro W b cs' hb ⟨gr',rfl,hi,_⟩;exact zer (ziY e) e _ _ al gr [] l2 g2 g2 W (IS.nil W) (h1.below hb) hi (h2.below hb)
attribute [local go_sem ↓] zaV zaW
attribute [local go_sem] zap zal zae zaq zai zaw zao zas zan zaC zaE zaa zaj zaf zaA zax zak zag zar zaG
theorem zmy(k:Int)(h:Instr.findNow (.int .i64) (.int .i64 k) fe5.toList 0=some none)(W:World)(m:Nat)(hb:W.heap[m]?=some (.map fe5 5)) :
  (Instr.lookup 76 (.map (some m)) (.int .i64 k) true).run Tryz.prog W=.ok (.tuple #[.agg #[.int .u8 0,.nilFunc,.nilFunc,.nilFunc],.bool false]) W:=zmz W m k _ hb h zhF
theorem ztc(e:En)(al gr:Value)(w:World)(hk:¬ (0<=e.kind∧e.kind<=4)) :
  Calls Tryz.prog 98 #[.agg (e.vals al gr)] w fun r w'=>r=.returned (.bool false)∧Below w.heap.size w w':=by
 have hf:=zlU e.kind hk;clear hk;have s1:(w.alloc (.cells (e.vals al gr) 40)).heap.size=w.heap.size+1:=by simp
 have hl1:(Instr.lookup 76 (.map (some (w.heap.size+1))) (.int .i64 e.kind) true).run Tryz.prog ((w.alloc (.cells (e.vals al gr) 40)).alloc (.map fe5 5)).drew=.ok (.tuple #[.agg #[.int .u8 0,.nilFunc,.nilFunc,.nilFunc],.bool false]) ((w.alloc (.cells (e.vals al gr) 40)).alloc (.map fe5 5)).drew:=by
  refine zmy e.kind hf _ _ ?_
  have:=heap_alloc_new (w.alloc (.cells (e.vals al gr) 40)) (.map fe5 5);rw[s1] at this;exact this
 have hl2:∀ o,(Instr.lookup 76 (.map (some (w.heap.size+1))) (.int .i64 e.kind) true).run Tryz.prog (((w.alloc (.cells (e.vals al gr) 40)).alloc (.map fe5 5)).alloc o).drew=.ok (.tuple #[.agg #[.int .u8 0,.nilFunc,.nilFunc,.nilFunc],.bool false]) (((w.alloc (.cells (e.vals al gr) 40)).alloc (.map fe5 5)).alloc o).drew:=fun o=>by
  refine zmy e.kind hf _ _ ?_
  have:=heap_alloc_new (w.alloc (.cells (e.vals al gr) 40)) (.map fe5 5);rw[s1] at this;exact (heap_alloc_old ((w.alloc (.cells (e.vals al gr) 40)).alloc (.map fe5 5)) o (by simp)).trans this
 have hl3:∀ o,(Instr.lookup 76 (.map (some (w.heap.size+1+1))) (.int .i64 e.kind) true).run Tryz.prog (((w.alloc (.cells (e.vals al gr) 40)).alloc o).alloc (.map fe5 5)).drew=.ok (.tuple #[.agg #[.int .u8 0,.nilFunc,.nilFunc,.nilFunc],.bool false]) (((w.alloc (.cells (e.vals al gr) 40)).alloc o).alloc (.map fe5 5)).drew:=fun o=>by
  refine zmy e.kind hf _ _ ?_
  have s2:((w.alloc (.cells (e.vals al gr) 40)).alloc o).heap.size=w.heap.size+1+1:=by simp
  have:=heap_alloc_new ((w.alloc (.cells (e.vals al gr) 40)).alloc o) (.map fe5 5);rw[s2] at this;exact this
 clear hf s1;go_enter Tryz.func98,Tryz.ntmps98
 go_upto_region 1 with fail
 go_cut [3,4] (fun _ t4 wx=>t4=.bool false∧Below w.heap.size w wx)
 case first =>
  go_region_law (first|(go_simp;go_at_call 29;(with_reducible refine (zco _).mono ?_);rintro _ w1 ⟨rfl,rfl⟩))
  all_goals
   go_wp2_with fail
   go_meet
   exact⟨rfl,by exact zbo⟩
 case rest =>
  obtain⟨rfl,B⟩:=hcut;go_wp2_with fail
  go_ret
  exact⟨rfl,B⟩
theorem znA(e:En)(al gr:Value)(l2:List Int)(g2:List Gr)(w:World)(hm:MaxL w)(hT:Tab w)(hsz:e.name.size<=1000)(h1:IS w al l2)(h2:GS w gr g2) :
  Calls Tryz.prog 98 #[.agg (e.vals al gr)] w fun r w'=>r=.returned (.bool (okX (e,l2,g2)))∧Below w.heap.size w w':=by
 unfold okX;simp only
 by_cases k0:e.kind=0
 · rw[if_pos k0];exact zpt e al gr l2 g2 w k0 hm hT h1 h2
 rw[if_neg k0];by_cases k1:e.kind=1
 · rw[if_pos k1];exact zpu e al gr l2 g2 w k1 hm h1 h2
 rw[if_neg k1];by_cases k2:e.kind=2
 · rw[if_pos k2];exact zpv e al gr l2 g2 w k2 hm hsz h1 h2
 rw[if_neg k2];by_cases k3:e.kind=3
 · rw[if_pos k3];exact zpw e al gr l2 g2 w k3 hm h1 h2
 rw[if_neg k3];by_cases k4:e.kind=4
 · rw[if_pos k4];exact zpx e al gr l2 g2 w k4 hm h1 h2
 rw[if_neg k4];exact ztc e al gr w (by omega)
end
section
attribute [local go_sem ↓ high] zew zgx
attribute [local go_sem] zbG zal zai zaw zao zas zan zaa zbU zaC zaE zbk zbW zbX zbK zbL zbg zbb zbM zbs zbl
end
end Go.Proofs.YtefcmdmfgdcpmaaGreatDoor
