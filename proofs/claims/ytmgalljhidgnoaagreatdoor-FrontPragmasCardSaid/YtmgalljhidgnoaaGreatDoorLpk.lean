/-
 Proof.
-/
import Derived.Test.YtmgalljhidgnoaaGreatDoorLpj
open Int renaming ofNat → vJ
open Option renaming rec → wz
open Nat renaming one_pos → yX, le_refl → vE, lt_of_lt_of_le → vZ
namespace Go.Den
open Go.RowKit
set_option maxRecDepth 100000
abbrev jI:TypeId:=120
abbrev Mn:TypeId:=123
abbrev Eo:TypeId:=131
abbrev HJ:TypeId:=152
theorem AH.Ape{a:H}{p:P}{e:TypeId}{t:Tm}{v:U}(b:a.at p=.row (Ai [v] 0 t) 1 0 e true):AH a p e [v]:=⟨_,b,λj c=>by
 have:j=0:=by simp only[List.length_cons,List.length_nil] at c;omega
 subst this;rw[Am];simp⟩
theorem Azu{a:H}{q:P}{e:TypeId}{n:Nat}(r:AH a q e [.int .i64 (vJ n)]){b:KV}(c:b (.int .i64 (vJ n)) a):W1 (.func 248) [.ptr q 0] a b:=by
 obtain⟨t,d,f⟩:=r;refine Aqf ?_;refine By rfl ?_;have g:C1 (.Gf .i64) [.ptr q 0] a=some (.int .i64 (vJ n),a):=by show(wz none (λv=>wz none (λn=>some (.int .i64 n,a)) (LD .i64 v)) (a.E4 q 0):Option (U×H))=_;rw[JY d yX,f 0 yX];rfl
 rw[g,Ad];exact c
theorem c78{a:H}{q:P}{e:TypeId}{v:U}{n:Int}(r:AH a q e [v]){b:KV}(c:∀d f,f.next=a.next→(∀g,g≠q→f.at g=a.at g)→AH f q e [.int .i64 n]→b d f):W1 (.func 78) [.ptr q 0,.int .i64 n] a b:=by
 obtain⟨t,h,i⟩:=r;refine x78 ?_;refine By rfl ?_;have j:C1 (.Fv .i64) [.ptr q 0,.int .i64 n] a=some (.undef,a.put q (.row (Ai [.int .i64 n] 0 t) 1 0 e true)):=by show(wz none (λn=>Qy (a.write q 0 [.int .i64 n])) (LD .i64 (.int .i64 n)):Option (U×H))=_;show Qy (a.write q 0 [.int .i64 n])=_;rw[M6 (cs:=[.int .i64 n]) h (vE _) (vE 1)];rfl
 rw[j,Ad];exact c _ _ rfl (λg k=>AQ k) (.Ape (Bg _ _ _))
theorem Bgx{a:H}{q:P}{e:TypeId}{n:Nat}{b:Int}(r:AH a q e [.int .i64 (vJ n)]){c:KV}(d:∀f,f.next=a.next→(∀g,g≠q→f.at g=a.at g)→AH f q e [.int .i64 b]→c (.bool true) f):W1 (.func 249) [.ptr q 0,.int .i64 (vJ n),.int .i64 b] a c:=by
 obtain⟨t,h,i⟩:=r;refine Ali ?_;refine By rfl ?_;have j:C1 (.Jr .i64) [.ptr q 0,.int .i64 (vJ n),.int .i64 b] a=some (.bool true,a.put q (.row (Ai [.int .i64 b] 0 t) 1 0 e true)):=by show(wz none (λv=>wz none (λk=>Bool.rec none (wz none (λa=>some (.bool true,a)) (a.write q 0 [.int .i64 b])) (AN k (vJ n))) (LD .i64 v)) (a.E4 q 0):Option (U×H))=_;rw[JY h yX,i 0 yX];show(Bool.rec none (wz none (λa=>some (.bool true,a)) (a.write q 0 [.int .i64 b])) (AN (vJ n) (vJ n)):Option (U×H))=_;rw[VB,M6 (cs:=[.int .i64 b]) h (vE _) (vE 1)];rfl
 rw[j,Ad];exact d _ rfl (λg l=>AQ l) (.Ape (Bg _ _ _))
theorem Apb{a:H}{q:P}{e:TypeId}{n:Nat}(r:AH a q e [.int .i64 (vJ n)]){b:KV}(c:b (.int .i64 (vJ n)) a):W1 (.func 211) [.ptr q 0] a b:=by refine Aql (n:=1) AJ (Azi ?_);unfold Qc;rw[Aj,Ad,Ae];refine Azu r ?_;rw[AG];exact c
theorem c60{a:H}{q:P}{e:TypeId}{v:U}{n:Int}(r:AH a q e [v]){b:KV}(c:∀d,d.next=a.next→(∀f,f≠q→d.at f=a.at f)→AH d q e [.int .i64 n]→b (.tuple []) d):W1 (.func 60) [.ptr q 0,.int .i64 n] a b:=by refine w60 (n:=1) AJ (g60 ?_);unfold Wa;rw[Aj,Ad,Ae];exact c78 r λg d h i j=>c d h i j
theorem Aky{a:H}{q:P}{e:TypeId}{n:Nat}{b:Int}(r:AH a q e [.int .i64 (vJ n)]){c:KV}(d:∀f,f.next=a.next→(∀g,g≠q→f.at g=a.at g)→AH f q e [.int .i64 b]→c (.bool true) f):W1 (.func 212) [.ptr q 0,.int .i64 (vJ n),.int .i64 b] a c:=by refine Amn (n:=1) AJ (Bao ?_);unfold QW;rw[Aj,Ad,Ae];refine Bgx r λf h i j=>?_;rw[AL];exact d f h i j
theorem lH(a b:Int)(h:H):AB env .max [2,2] [.int .i64 a,.int .i64 b] h=some (.int .i64 (Bool.rec a b (Ba a b)),h):=by kernel_rfl
theorem Aol(p:P):Dh env .eql 98 (.ptr p 0) .Bn=some (.bool false):=by kernel_rfl
theorem Aoj{a:H}{b:P}{n:Nat}(r:AH a b HJ [.int .i64 (vJ n)])(c:1≤n)(d:n≤1000000){f:KV}(g:∀h,h.next=a.next→(∀i,i≠b→h.at i=a.at i)→AH h b HJ [.int .i64 (vJ (n-1))]→f (.bool true) h):W1 (.func 161) [.ptr b 0,.int .i64 (vJ 1)] a f:=by
 refine Aaj (n:=2) AJ (Ant ?_);unfold N7;rw[Aol,Gn,AL];rw[UN];refine AR rfl ?_;refine iG ?_;unfold NT;rw[Aj,Ad,Ae];refine Apb r ?_;rw[AG];refine fh c (by omega) ?_;rw[lH,Ad,AG,Aj,Ad,Ae];have e:(Bool.rec (vJ (n-1)) (vJ 0) (Ba (vJ (n-1)) (vJ 0)):Int)=vJ (n-1):=by rw[Cr,decide_eq_false (Nat.not_lt_zero _)]
 rw[e];refine Aky r λh j k l=>?_;rw[AL];refine By rfl ?_;rw[Gc,decide_eq_true c];exact g h j k l
def dL:List UInt8:=[95,95,76,73,78,69,95,95]
def bW:List UInt8:=[95,95,70,73,76,69,95,95]
structure Gu(c:List U):Prop where
 ex:∃(kd:Nat)(tx fl:List UInt8)(sp md:Bool)(a b:Int),c=[.int .i64 (vJ kd),S tx,.bool sp,S fl,.int .i64 a,.int .i64 b,.bool md,.Af]∧tx.length≤1000000∧tx≠dL∧tx≠bW
structure EF(h:H)(pN pM pF pt pe:P)(w0 w1 w2:U)(L:Cn)(fu:Nat):Prop where
 run:AH h pN jI [.ptr pt 0,w0,w1,w2,.ptr pF 0,.map pM,.Af,.bool false]
 fuel:AH h pF HJ [.int .i64 (vJ fu)]
 used:Ct h pM L
 da:AH h pt 145 [.map pe]
 emp:h.at pe=.map [] 0
 nN:pN.nat<h.next.nat
 nM:pM.nat<h.next.nat
 nF:pF.nat<h.next.nat
 nt:pt.nat<h.next.nat
 ne:pe.nat<h.next.nat
 em:pe≠pM
theorem AH.CT{h:H}{p:P}{e:TypeId}{cs:List U}(r:AH h p e cs){b:Es}{c:Nat}(d:h.at p=.map b c):False:=by obtain⟨t,a,_⟩:=r;rw[a] at d;cases d
theorem AH.ne{b:H}{p q:P}{e c:TypeId}{cs ds:List U}(r:AH b p e cs)(s:AH b q c ds)(d:e≠c):p≠q:=λf=>by subst f;obtain⟨t,a,_⟩:=r;obtain⟨g,h,_⟩:=s;rw[a] at h;simp only[Ob.row.injEq] at h;exact d h.2.2.2.1
section
variable{h:H}{pN pM pF pt pe:P}{w0 w1 w2:U}{L:Cn}{fu:Nat}
theorem EF.keep{b:H}(r:EF h pN pM pF pt pe w0 w1 w2 L fu)(c:h.next.nat≤b.next.nat)(d:∀f,f.nat<h.next.nat→(∀t g z i,h.at f≠.row t g z Eo i)→(∀t g z i,h.at f≠.row t g z Mn i)→b.at f=h.at f):EF b pN pM pF pt pe w0 w1 w2 L fu:=by
 have j:∀{p:P}{e:TypeId}{cs:List U},AH h p e cs→p.nat<h.next.nat→e≠Eo→e≠Mn→b.at p=h.at p:=λ{p e cs} k l m n=>d p l (λt g z i q=>by
  obtain⟨o,a,_⟩:=k;rw[a] at q;cases q;exact m rfl) (λt g z i q=>by
  obtain⟨o,a,_⟩:=k;rw[a] at q;cases q;exact n rfl)
 have s:∀{p:P}{u:Es}{v:Nat},h.at p=.map u v→p.nat<h.next.nat→b.at p=h.at p:=λ{p u v} k l=>d p l (λt g z i q=>by rw[k] at q;cases q) (λt g z i q=>by rw[k] at q;cases q);have w:=s r.used r.nM;have x:=s r.emp r.ne;exact⟨r.run.of (j r.run r.nN (by decide) (by decide)),r.fuel.of (j r.fuel r.nF (by decide) (by decide)),by unfold Ct;rw[w];exact r.used,r.da.of (j r.da r.nt (by decide) (by decide)),by rw[x];exact r.emp,vZ r.nN c,vZ r.nM c,vZ r.nF c,vZ r.nt c,vZ r.ne c,r.em⟩
theorem EF.ext{h':H}(r:EF h pN pM pF pt pe w0 w1 w2 L fu)(x:AP h h'):EF h' pN pM pF pt pe w0 w1 w2 L fu:=r.keep x.1 λc a _ _=>x.2 c a
theorem EF.gH{a:H}{b:Nat}(r:EF h pN pM pF pt pe w0 w1 w2 L fu)(c:a.next=h.next)(d:∀f,f≠pF→a.at f=h.at f)(g:AH a pF HJ [.int .i64 (vJ b)]):EF a pN pM pF pt pe w0 w1 w2 L b:=by
 have i:a.at pM=h.at pM:=d _ λe=>by subst e;exact r.fuel.CT r.used
 have j:a.at pe=h.at pe:=d _ λe=>by subst e;exact r.fuel.CT r.emp
 exact⟨r.run.of (d _ (r.run.ne r.fuel (by decide))),g,by unfold Ct;rw[i];exact r.used,r.da.of (d _ (r.da.ne r.fuel (by decide))),by rw[j];exact r.emp,by rw[c];exact r.nN,by rw[c];exact r.nM,by rw[c];exact r.nF,by rw[c];exact r.nt,by rw[c];exact r.ne,r.em⟩
theorem EF.Azj{a:H}{L':Cn}(r:EF h pN pM pF pt pe w0 w1 w2 L fu)(b:a.next=h.next)(c:∀d,d≠pM→a.at d=h.at d)(f:Ct a pM L'):EF a pN pM pF pt pe w0 w1 w2 L' fu:=by have g:a.at pe=h.at pe:=c _ r.em;have i:∀{p:P}{e:TypeId}{cs:List U},AH h p e cs→AH a p e cs:=λ{p e cs} j=>j.of (c _ λe=>by subst e;exact j.CT r.used);exact⟨i r.run,i r.fuel,f,i r.da,by rw[g];exact r.emp,by rw[b];exact r.nN,by rw[b];exact r.nM,by rw[b];exact r.nF,by rw[b];exact r.nt,by rw[b];exact r.ne,r.em⟩
theorem Bfj(r:EF h pN pM pF pt pe w0 w1 w2 L fu)(a:1≤fu)(b:fu≤1000000){c:List U}(d:c.length=8){f:KV}(g:∀i,CE (λc=>c=pF) h i→EF i pN pM pF pt pe w0 w1 w2 L (fu-1)→f (.bool true) i):W1 (.func 130) [.ptr pN 0,.int .i64 (vJ 1),.agg c] h f:=by refine oI (n:=2) AJ (Aqd ?_);unfold NF;rw[CB];refine CA (λe=>by rw[e] at d;cases d) ?_;refine newRow (e:=Ci) (cs:=c) rfl λj k l m=>?_;have R2:=r.ext k;rw[Aj,Ad,Ae];refine R2.run.Z (j:=4) (by show 4<8;decide) ?_;refine Aoj R2.fuel a b λn o f3 r3=>?_;have R3:=R2.gH o f3 r3;rw[AL];refine AR rfl ?_;refine gX ?_;unfold ND;rw[Aj,Ad,Ae];refine R3.run.Z (j:=7) (by show 7<8;decide) ?_;show Be (.bool false) _;rw[AL,show Bm false=true from rfl];refine g _ ⟨by rw[o];exact k.1,λc d p=>by rw[f3 c p,k.2 c d]⟩ R3
theorem c92(l c:Nat):Pure PP G h0 92 [.Af,.str l c] (.bool false):=pure_run (by kernel_rfl)
theorem Afg(q:P)(l c:Nat)(h:H):BO env 143 (.map q) (.str l c) false h=(wz none (λp=>CW env 220 false (Cb (.str l c) p.1 0) h) (EJ (h.at q)):Option (U×H)):=by kernel_rfl
theorem nf(h:H):CW env 220 false (some none) h=some (.Bn,h):=by kernel_rfl
theorem Bdq(p:P):Dh env .eql 96 (.ptr p 0) .Bn=some (.bool false):=by kernel_rfl
theorem Bho(p:P):Dh env .neq 96 (.ptr p 0) .Bn=some (.bool true):=by kernel_rfl
theorem Ban:Dh env .eql 220 .Bn .Bn=some (.bool true):=by kernel_rfl
theorem c95(r:EF h pN pM pF pt pe w0 w1 w2 L fu)(l a:Nat){b:KV}(c:b .Bn h):W1 (.func 95) [.ptr pt 0,.str l a] h b:=by refine w95 (n:=1) AJ (g95 ?_);unfold Xk;rw[Bdq,Gn,AL];refine AR rfl ?_;rw[Aj,Ad,Ae];refine r.da.Z (j:=0) (by show 0<1;decide) ?_;show oK (BO env 143 (.map pe) (.str l a) false h) _;rw[Afg,r.emp];show oK (CW env 220 false (some none) h) _;rw[nf,Ad];exact c
theorem c94{b:P}{c:List U}(d:Gu c){f:KV}(g:∀i,AP h i→f (.tuple [.agg c,.bool false]) i):W1 (.func 94) [.ptr b 0,.agg c] h f:=by
 obtain⟨j,k,l,m,n,a,o,e,p,q,r⟩:=d.ex;have l8:c.length=8:=by rw[e];rfl
 refine w94 (n:=1) AJ (g94 ?_);unfold Xx;rw[CB];refine CA (λe=>by rw[e] at l8;cases l8) ?_;refine newRow (e:=Ci) (cs:=c) rfl λs t u v=>?_;refine newRow (e:=Ci) (cs:=Fs) rfl λw x y b=>?_;rw[Ae];have f:=v.ext x (by omega);refine f.Z (j:=1) (by omega) ?_;have i:c[0+1]'(by omega)=S k:=by simp only[e];rfl
 rw[i,CR];have u:CL k.length (enc k) 8 6872287758930173791=false:=by have:=LZ (s:=k) (t:=dL) q;rw[show enc dL=6872287758930173791 by kernel_rfl] at this;exact this
 have j:CL k.length (enc k) 8 6872287750339845983=false:=by have:=LZ (s:=k) (t:=bW) r;rw[show enc bW=6872287750339845983 by kernel_rfl] at this;exact this
 rw[u,j];refine AR rfl (AR rfl ?_);refine f.A3 (o:=0) (ds:=c) l8 (by rw[List.drop_zero,List.take_length]) (by omega) ?_;refine b.CV (o:=0) (ds:=c) (cs':=c) l8 (by decide) (by show 0+8≤8;decide) (by rw[show Fs.drop (0+8)=[] from rfl];simp) λl m f3 r3=>?_;refine r3.A3 (o:=0) (ds:=c) l8 (by rw[List.drop_zero,List.take_length]) (by omega) ?_;exact g _ ((t.trans x).Gr (by omega) m f3)
end
end Go.Den
