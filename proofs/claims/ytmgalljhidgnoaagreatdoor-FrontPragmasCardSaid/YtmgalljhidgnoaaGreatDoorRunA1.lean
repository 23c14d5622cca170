/-
 Proof. the functions, in pieces.
-/
import Derived.Test.YtmgalljhidgnoaaGreatDoorRunA
open Option renaming rec → wz
open Int renaming ofNat → vJ, negSucc → yx
open Nat renaming rec → vP, ble → vU
noncomputable section
namespace Go.Den
open Go.Proofs
set_option maxRecDepth 100000
def d3:Code:=wz .skip (λc=>c) Tryz.f3.body
def q3:Ak:=[(26,[0,1,2,3,4,5,6,7,8,9,10,11,12,13,14,15,16,17,18,19,20,21,22,23,24,25,26,27,28,29,30,31,32,33,34,35,36,37,38,39,40,41,42,43,44,45,46,47,48,49,50,51,52,53,54])]
structure J3 where
 a0:Int→Nat→Nat→Int→H→Prop
 a1:Int→Nat→Nat→Int→Int→H→Prop
 a2:Int→Nat→Nat→Int→Nat→Nat→Int→H→Prop
 a3:Nat→Nat→U→Nat→Nat→Int→H→Prop
 a4:Nat→Nat→U→Nat→Nat→H→Prop
 a5:Nat→Nat→U→U→Nat→Nat→Bool→H→Prop
 a6:Nat→Nat→U→Nat→Nat→Int→H→Prop
def gz(a:CF)(b:KV)(J:J3)(c:Int)(d f:Nat)(g:Int)(h:H):Prop:=
 AM (λk1=>gate false (Ba c (vJ 0))
 (k1 (Ba (vJ 20) c) h)
 (k1 true h)) λi j=>
 AM (λk4=>gate false i
 (k4 (Ba (vJ 60) (vJ d)) j)
 (k4 true j)) λk l=>
 AM (λk7=>gate false k
 (k7 (Ba g (vJ 0)) l)
 (k7 true l)) λm n=>
 AM (λOB=>gate false m
 (OB (Ba (vJ 60) g) n)
 (OB true n)) λo p=>
 V o
 (a (.func 4) [] p λq r=>
 Be q λs=>
 b (.bool s) r)
 (J.a1 c d f g (vJ 0) p)
def Zg(a:CF)(b:KV)(J:J3)(c:Int)(d f:Nat)(g h:Int)(i:H):Prop:=
 V (Ba h (vJ d))
 (Bo h λj=>
 FG d f j λk=>
 AM (λT8=>gate false (Ba (vJ k) (vJ 97))
 (Bo h λl=>
 FG d f l λm=>
 T8 (Ba (vJ 122) (vJ m)) i)
 (T8 true i)) λn o=>
 AM (λk23=>gate true n
 (Bo h λp=>
 FG d f p λq=>
 k23 (Bm (AN (vJ q) (vJ 32))) o)
 (k23 false o)) λr s=>
 V r
 (a (.func 4) [] s λt u=>
 Be t λv=>
 b (.bool v) u)
 (fI (wrap .i64 (AW h (vJ 1))) λw=>
 J.a1 c d f g w s))
 (J.a2 c d f g 0 0 (vJ 0) i)
def Zn(a:CF)(b:KV)(J:J3)(c:Int)(d f:Nat)(g:Int)(h i:Nat)(j:Int)(k:H):Prop:=
 V (Ba j c)
 (Nk h i 10 152912945003795344198264 λl c33=>
 Nk l c33 d f λm c35=>
 Nk m c35 1 10 λn o=>
 fI (wrap .i64 (AW j (vJ 1))) λp=>
 J.a2 c d f g n o p k)
 (oK (AF env (env.ty 28) [(0,(.str 3 6499937)),(1,(.str h i))] k) λq r=>
 oK (AE env 29 (λe s=>Ap 1 [(0,q)] r e s)) λt u=>
 a (.func 5) [.Af,t] u λv w=>
 ext 0 v λx=>
 ext 1 v λ_=>
 ext 2 v λy=>
 Be y λl=>
 V (Bm l)
 (b (.bool false) w)
 (oK (AF env (env.ty 37) [(1,(.int .i64 (vJ 1))),(2,(.int .i64 g))] w) λm j=>
 a (.func 6) [x,(.str 3 6499937),m] j λn o=>
 Hp.Bu o qt λp k=>
 CV 5 (.ptr p 0) n k λq=>
 Ac 0 (.ptr p 0) λr=>
 Z r q λs=>
 Bz s λt=>
 fI (wrap .i64 ((vJ 2)*c)) λu=>
 oK (AB env .min [3,3] [(.int .i64 u),(.int .i64 g)] q) λv y=>
 Ar .i64 v λl=>
 AM (λw=>gate false (Bm (AN (vJ t) l))
 (Ac 4 (.ptr p 0) λj=>
 Z j y λm=>
 Be m λx=>
 fI (wrap .i64 ((vJ 2)*c)) λo=>
 oV (Dh env .neq 4 (.bool x) (.bool (Ba g o))) λk=>
 Be k λn=>
 w n y)
 (w true y)) λr s=>
 V r
 (b (.bool false) s)
 (a (.func 7) [(.str 3 6499937),(.str d f)] s λq u=>
 ext 0 q λv=>
 ext 1 q λ_=>
 Bz v λl=>
 J.a5 h i (.ptr p 0) v 0 0 (Ba (vJ 0) (vJ l)) u)))
def jg(a:CF)(b:KV)(J:J3)(c d:Nat)(f:U)(g h:Nat)(i:Int)(j:H):Prop:=
 Ac 0 f λk=>
 Z k j λl=>
 Bz l λm=>
 V (Ba i (vJ m))
 (U5 i (vJ 2) λn=>
 AM (λo=>gate true (AN n (vJ 0))
 (Ac 0 f λp=>
 Z p j λq=>
 Bo i λr=>
 A7 8 r q λs=>
 Ac 1 s λt=>
 Z t j λu=>
 Bv u λv c91=>
 o (Bm (CL v c91 1 120)) j)
 (o false j)) λw x=>
 AM (λy=>gate false w
 (U5 i (vJ 2) λk=>
 AM (λl=>gate true (AN k (vJ 1))
 (Ac 0 f λm=>
 Z m x λn=>
 Bo i λp=>
 A7 8 p n λq=>
 Ac 0 q λr=>
 Z r x λs=>
 Ar .i64 s λt=>
 AM (λu=>gate false (Bm (AN t (vJ 7)))
 (Ac 0 f λv=>
 Z v x λo=>
 Bo i λw=>
 A7 8 w o λk=>
 Ac 1 k λm=>
 Z m x λn=>
 Bv n λp q=>
 u (Bm (CL p q g h)) x)
 (u true x)) λr s=>
 AM (λt=>gate false r
 (Ac 0 f λv=>
 Z v s λo=>
 Bo i λw=>
 A7 8 w o λk=>
 Ac 3 k λm=>
 Ac 1 m λn=>
 Z n s λp=>
 Ar .i64 p λq=>
 Ac 0 f λu=>
 Z u s λr=>
 Bo i λv=>
 A7 8 v r λo=>
 Ac 3 o λw=>
 Ac 2 w λk=>
 Z k s λm=>
 Ar .i64 m λn=>
 a (.func 9) [(.str c d),(.int .i64 q),(.int .i64 n)] s λp u=>
 Bv p λr v=>
 t (Bm (CL r v 6 107122513769072)) u)
 (t true s)) λo w=>
 l o w)
 (l false x)) λk m=>
 y k m)
 (y true x)) λn q=>
 V n
 (b (.bool false) q)
 (J.a6 c d f g h i q))
 (a (.func 4) [] j λp r=>
 Be p λu=>
 b (.bool u) r)
def fD(_c:CF)(_k:KV)(J:J3)(a b:Nat)(c:U)(d f:Nat)(g:H):Prop:=
 J.a3 a b c d f (vJ 0) g
def bM(a:CF)(_k:KV)(J:J3)(b c:Nat)(d f:U)(g h:Nat)(i:Bool)(j:H):Prop:=
 V i
 (A7 4 0 f λk=>
 Ac 0 k λl=>
 Z l j λm=>
 a (.func 8) [m] j λn o=>
 Bv n λp q=>
 J.a4 b c d p q o)
 (J.a4 b c d g h j)
def gg(_c:CF)(_k:KV)(J:J3)(a b:Nat)(c:U)(d f:Nat)(g:Int)(h:H):Prop:=
 fI (wrap .i64 (AW g (vJ 1))) λi=>
 J.a3 a b c d f i h
def z3:J3:=⟨λ_ _ _ _ _=>False,λ_ _ _ _ _ _=>False,λ_ _ _ _ _ _ _ _=>False,λ_ _ _ _ _ _ _=>False,λ_ _ _ _ _ _=>False,λ_ _ _ _ _ _ _ _=>False,λ_ _ _ _ _ _ _=>False⟩
def r3(c:CF)(k:KV)(m:Nat):J3:=vP z3 (λ_ J=>⟨gz c k J,Zg c k J,Zn c k J,jg c k J,fD c k J,bM c k J,gg c k J⟩) m
def f3(J:J3):Jump:=λa f b=>match a with
 |0=>Ar .i64 (f 0) λc=>Bv (f 1) λd g=>Ar .i64 (f 2) λh=>J.a0 c d g h b
 |1=>Ar .i64 (f 0) λc=>Bv (f 1) λd g=>Ar .i64 (f 2) λh=>Ar .i64 (f 7) λi=>J.a1 c d g h i b
 |2=>Ar .i64 (f 0) λc=>Bv (f 1) λd g=>Ar .i64 (f 2) λh=>Bv (f 8) λj k=>Ar .i64 (f 9) λl=>J.a2 c d g h j k l b
 |3=>Bv (f 8) λj k=>Bv (f 16) λm n=>Ar .i64 (f 17) λo=>J.a3 j k (f 13) m n o b
 |4=>Bv (f 8) λj k=>Bv (f 16) λm n=>J.a4 j k (f 13) m n b
 |5=>Bv (f 8) λj k=>Bv (f 16) λm n=>Be (f 109) λp=>J.a5 j k (f 13) (f 14) m n p b
 |6=>Bv (f 8) λj k=>Bv (f 16) λm n=>Ar .i64 (f 17) λo=>J.a6 j k (f 13) m n o b
 |_=>False
def u3:As:=[(.root,0),((.l (.r (.l (.r (.r .root))))),1),((.l (.r (.l (.r (.r (.r (.r .root))))))),2),((.l (.r (.l (.r (.r (.r (.r (.r (.r (.r (.r (.r (.r (.r (.r .root))))))))))))))),3),((.r (.r (.r (.r (.r (.r (.r (.r (.r (.r (.r (.r .root)))))))))))),4),((.r (.l (.r (.r (.r (.r (.r (.r (.r (.r (.r (.r (.r .root))))))))))))),5),((.r (.r (.l (.l (.r (.l (.r (.r (.r (.r (.r (.r (.r (.r (.r (.r (.r (.r .root)))))))))))))))))),6)]
def d4:Code:=wz .skip (λc=>c) Tryz.f4.body
def q4:Ak:=[]
def u4:As:=[(.root,0)]
def d5:Code:=wz .skip (λc=>c) Tryz.f5.body
def q5:Ak:=[(8,[0,1,2,3,4,5,6,7,8,9,10,12,13,14,15,16,17,18,19,20,21,22,11,23,24])]
structure J5 where
 a0:U→U→H→Prop
 a1:U→U→U→Int→H→Prop
def fK(a:CF)(b:KV)(J:J5)(c d:U)(f:H):Prop:=
 a (.func 11) [c] f λg h=>
 ext 0 g λi=>
 ext 1 g λj=>
 Ar .i64 j λk=>
 oK (AF env (env.ty 60) [(0,c)] h) λl m=>
 EX l λg8=>
 Fa (vU 1 (len g8))<|
 Hp.Bu m (rowOf 60 g8) λn o=>
 AM (λbX=>gate false (Bm (AN k (vJ 0)))
 (oV (Dh env .eql 23 i .Bn) λp=>
 Be p λq=>
 bX q o)
 (bX true o)) λr s=>
 V r
 (b (.tuple [.Bn,(.ptr n 0),(.bool false)]) s)
 (J.a1 d i (.ptr n 0) (vJ 0) s)
def Z2(a:CF)(b:KV)(J:J5)(c d f:U)(g:Int)(h:H):Prop:=
 Bz c λi=>
 V (Ba g (vJ i))
 (Bo g λj=>
 A7 2 j c λk=>
 Ac 0 k λl=>
 Z l h λm=>
 Bv m λn c22=>
 Bo g λo=>
 A7 2 o c λp=>
 Ac 1 p λq=>
 Z q h λr=>
 Bv r λs c28=>
 Bo g λt=>
 A7 2 t c λu=>
 Ac 0 u λv=>
 Z v h λw=>
 Bv w λx c34=>
 Bo g λy=>
 A7 2 y c λi=>
 Ac 1 i λj=>
 Z j h λk=>
 Bv k λl lJ=>
 a (.func 12) [d,(.str n c22),(.str s c28)] h λm o=>
 Ar .i64 m λp=>
 Z v o λq=>
 Bv q λr ki=>
 BE (.str r ki) (.str x c34)<|
 Z j o λt=>
 Bv t λu w=>
 BE (.str u w) (.str l lJ)<|
 a (.func 13) [f,(.str x c34),(.str l lJ)] o λy i=>
 Ar .i64 y λk=>
 V (Bm (AN p k))
 (b (.tuple [.Bn,f,(.bool false)]) i)
 (fI (wrap .i64 (AW g (vJ 1))) λn=>
 J.a1 c d f n i))
 (b (.tuple [d,f,(.bool true)]) h)
def z5:J5:=⟨λ_ _ _=>False,λ_ _ _ _ _=>False⟩
def r5(c:CF)(k:KV)(m:Nat):J5:=vP z5 (λ_ J=>⟨fK c k J,Z2 c k J⟩) m
def f5(J:J5):Jump:=λa f b=>match a with
 |0=>J.a0 (f 0) (f 1) b
 |1=>Ar .i64 (f 10) λc=>J.a1 (f 1) (f 7) (f 9) c b
 |_=>False
def u5:As:=[(.root,0),((.l (.r (.l (.r (.r (.r (.r .root))))))),1)]
def d6:Code:=wz .skip (λc=>c) Tryz.f6.body
def q6:Ak:=[]
structure J6 where
 a0:U→Nat→Nat→U→H→Prop
def iI(a:CF)(b:KV)(_J:J6)(c:U)(d f:Nat)(g:U)(h:H):Prop:=
 EX g λi=>
 Fa (vU 1 (len i))<|
 Hp.Bu h (rowOf 37 i) λj k=>
 Hp.Bu k qt λl m=>
 A3 3 (.ptr j 0) m λn=>
 oK (AF env (env.ty 67) [(0,(.func (.func 15) [] [])),(1,(.func (.func 16) [] []))] m) λo p=>
 a (.func 14) [c,(.str d f),n,o] p λq r=>
 CV 5 (.ptr l 0) q r λs=>
 A3 5 (.ptr l 0) s λt=>
 b t s
def z6:J6:=⟨λ_ _ _ _ _=>False⟩
def r6(c:CF)(k:KV)(m:Nat):J6:=vP z6 (λ_ J=>⟨iI c k J⟩) m
def f6(J:J6):Jump:=λL f a=>match L with
 |0=>Bv (f 1) λb c=>J.a0 (f 0) b c (f 2) a
 |_=>False
def u6:As:=[(.root,0)]
def d7:Code:=wz .skip (λc=>c) Tryz.f7.body
def q7:Ak:=[(20,[0,1,2,3,4,5,6,7,8,9,10,11,12,13,14,15,16,17]),(27,[0,1,2,3,4,5,6,7,8,9,10,11,12,13,14]),(28,[0,1,2,3,4,5,6,8,9,7,10,11,12,13,14])]
structure J7 where
 a0:Nat→Nat→Nat→Nat→H→Prop
 a1:Nat→Nat→Nat→Nat→U→U→U→U→Bool→Int→H→Prop
 a2:Nat→Nat→Nat→Nat→U→U→U→U→Int→H→Prop
 a3:U→U→H→Prop
 a4:Nat→Nat→U→U→U→H→Prop
 a5:Nat→Nat→Nat→Nat→U→U→U→U→Bool→Int→Int→Int→Bool→H→Prop
def YD(a:CF)(_k:KV)(J:J7)(b c:Nat)(d f:Nat)(g:H):Prop:=
 a (.func 17) [(.str d f)] g λh i=>
 Hp.Bu i lL λj k=>
 J.a1 b c d f h .Af .Af (.ptr j 0) false (vJ 0) k
def PI(c:CF)(_k:KV)(J:J7)(a b:Nat)(d f:Nat)(g h:U)(i j:U)(k:Bool)(l:Int)(m:H):Prop:=
 Bz g λn=>
 V (Ba l (vJ n))
 (Bo l λo=>
 A7 3 o g λp=>
 Ac 0 p λq=>
 Z q m λr=>
 Ar .u8 r λs=>
 V (AN s (vJ 10))
 (Bo l λt=>
 A7 3 t g λu=>
 Ac 2 u λv=>
 Z v m λw=>
 Ar .i64 w λx=>
 Ac 2 j λy=>
 BC y (.int .i64 x) m λn=>
 A3 4 j n λo=>
 oK (AE env 38 (λe p=>Ap 1 [(0,o)] n e p)) λq r=>
 oK (AB env .append [38,38] [h,q] r) λs t=>
 Bo l λu=>
 A7 3 u g λv=>
 Ac 2 v λw=>
 Z w t λx=>
 Ar .i64 x λy=>
 oK (AF env (env.ty 43) [(1,(.int .i64 y))] t) λn o=>
 CV 4 j n o λq=>
 fI (wrap .i64 (AW l (vJ 1))) λr=>
 J.a1 a b d f g s i j false r q)
 (Bo l λu=>
 A7 3 u g λv=>
 Ac 0 v λw=>
 Z w m λx=>
 Ar .u8 x λt=>
 c (.func 18) [(.int .u8 t)] m λy n=>
 Be y λo=>
 V o
 (fI (wrap .i64 (AW l (vJ 1))) λq=>
 J.a1 a b d f g h i j true q n)
 (c (.func 19) [g,(.int .i64 l)] n λr s=>
 ext 0 r λu=>
 Ar .i64 u λv=>
 ext 1 r λw=>
 Be w λx=>
 V (Ba l v)
 (V x
 (Bo l λt=>
 A7 3 t g λy=>
 Ac 1 y λo=>
 Z o s λq=>
 Ar .i64 q λn=>
 fI (wrap .i64 (AW l (vJ 1))) λu=>
 Bo u λr=>
 A7 3 r g λw=>
 Ac 2 w λx=>
 Z x s λt=>
 Ar .i64 t λy=>
 oK (AF env (env.ty 45) [(0,(.str a b)),(1,(.int .i64 n)),(2,(.int .i64 y))] s) λo q=>
 oK (AF env (env.ty 52) [(0,(.int .i64 (vJ 1))),(1,o)] q) λu r=>
 oK (AE env 31 (λe p=>Ap 1 [(0,u)] r e p)) λw x=>
 oK (AB env .append [31,31] [i,w] x) λt n=>
 J.a4 d f h t j n)
 (J.a1 a b d f g h i j true v s))
 (c (.func 20) [g,(.int .i64 l)] s λy o=>
 ext 0 y λq=>
 Ar .i64 q λp=>
 ext 1 y λr=>
 Ar .i64 r λu=>
 ext 2 y λw=>
 Be w λx=>
 J.a5 a b d f g h i j k l p u x o))))
 (Bz h λn=>
 V (Ba (vJ 0) (vJ n))
 (Bz h λt=>
 fI (wrap .i64 (EU (vJ t) (vJ 1))) λv=>
 Bo v λs=>
 A7 4 s h λq=>
 Ac 2 q λr=>
 BC r (.int .i64 (vJ d)) m λy=>
 J.a3 h i y)
 (J.a3 h i m))
def gO(_c:CF)(_k:KV)(J:J7)(a b:Nat)(c d:Nat)(f g:U)(h i:U)(j:Int)(k:H):Prop:=
 J.a1 a b c d f g h i false j k
def Yj(_c:CF)(a:KV)(_J:J7)(b c:U)(d:H):Prop:=
 a (.tuple [b,c]) d
def Anh(_c:CF)(a:KV)(_J:J7)(b _c_1:Nat)(c d f:U)(g:H):Prop:=
 Ac 2 f λh=>
 BC h (.int .i64 (vJ b)) g λi=>
 Ac 3 f λj=>
 BC j (.bool true) i λk=>
 A3 4 f k λl=>
 oK (AE env 38 (λe m=>Ap 1 [(0,l)] k e m)) λn o=>
 oK (AB env .append [38,38] [c,n] o) λp q=>
 a (.tuple [p,d]) q
def gM(c:CF)(_k:KV)(J:J7)(a b:Nat)(d f:Nat)(g h:U)(i j:U)(k:Bool)(l m n:Int)(o:Bool)(p:H):Prop:=
 Bo l λq=>
 A7 3 q g λr=>
 Ac 1 r λs=>
 Z s p λt=>
 Ar .i64 t λu=>
 fI (wrap .i64 (EU n (vJ 1))) λv=>
 Bo v λw=>
 A7 3 w g λx=>
 Ac 2 x λy=>
 Z y p λq=>
 Ar .i64 q λr=>
 oK (AF env (env.ty 45) [(0,(.str a b)),(1,(.int .i64 u)),(2,(.int .i64 r))] p) λt v=>
 Hp.Bu v Mz λw x=>
 Z s x λq=>
 Ar .i64 q λp=>
 BE (.int .i64 p) (.int .i64 u)<|
 Z y x λv=>
 Ar .i64 v λs=>
 BE (.int .i64 s) (.int .i64 r)<|
 CV 3 (.ptr w 0) t x λq=>
 Ac 0 j λp=>
 Z p q λu=>
 oK (slice3 env q 68 g (some (Bf (.int .i64 l))) (some (Bf (.int .i64 n))) none) λy v=>
 A3 3 (.ptr w 0) v λr=>
 c (.func 21) [y] v λs t=>
 Bv s λx l=>
 Z p t λq=>
 BE q u<|
 A3 3 (.ptr w 0) t λv=>
 BE v r<|
 oK (AF env (env.ty 48) [(0,(.int .i64 m)),(1,(.str x l)),(2,(.bool k)),(3,r)] t) λy s=>
 oK (AE env 30 (λe q=>Ap 1 [(0,y)] s e q)) λv k=>
 Z p k λl=>
 BE l u<|
 oK (AB env .append [30,30] [u,v] k) λm r=>
 Ac 0 j λt=>
 BC t m r λx=>
 V o
 (A3 3 (.ptr w 0) x λs=>
 oK (AF env (env.ty 52) [(0,(.int .i64 (vJ 2))),(1,s)] x) λy p=>
 oK (AE env 31 (λe q=>Ap 1 [(0,y)] p e q)) λl k=>
 oK (AB env .append [31,31] [i,l] k) λu v=>
 J.a2 a b d f g h u j n v)
 (J.a2 a b d f g h i j n x)
def z7:J7:=⟨λ_ _ _ _ _=>False,λ_ _ _ _ _ _ _ _ _ _ _=>False,λ_ _ _ _ _ _ _ _ _ _=>False,λ_ _ _=>False,λ_ _ _ _ _ _=>False,λ_ _ _ _ _ _ _ _ _ _ _ _ _ _=>False⟩
def r7(c:CF)(k:KV)(m:Nat):J7:=vP z7 (λ_ J=>⟨YD c k J,PI c k J,gO c k J,Yj c k J,Anh c k J,gM c k J⟩) m
def f7(J:J7):Jump:=λL f h=>match L with
 |0=>Bv (f 0) λa b=>Bv (f 1) λc d=>J.a0 a b c d h
 |1=>Bv (f 0) λa b=>Bv (f 1) λc d=>Be (f 10) λg=>Ar .i64 (f 11) λi=>J.a1 a b c d (f 6) (f 7) (f 8) (f 9) g i h
 |2=>Bv (f 0) λa b=>Bv (f 1) λc d=>Ar .i64 (f 15) λj=>J.a2 a b c d (f 6) (f 7) (f 8) (f 9) j h
 |3=>J.a3 (f 7) (f 8) h
 |4=>Bv (f 1) λc d=>J.a4 c d (f 7) (f 8) (f 9) h
 |5=>Bv (f 0) λa b=>Bv (f 1) λc d=>Be (f 10) λg=>Ar .i64 (f 11) λi=>Ar .i64 (f 14) λk=>Ar .i64 (f 15) λj=>Be (f 16) λl=>J.a5 a b c d (f 6) (f 7) (f 8) (f 9) g i k j l h
 |_=>False
def u7:As:=[(.root,0),((.l (.r (.l (.r (.r (.r (.r (.r (.r .root))))))))),1),((.r (.r (.r (.r (.r (.r (.r (.r (.l (.r (.l (.l (.r (.l (.r (.r (.r (.r (.r (.r .root)))))))))))))))))))),2),((.r (.r (.r (.r (.r (.r (.r (.r .root)))))))),3),((.r (.l (.r (.l (.l (.r (.l (.r (.r (.r (.l (.r (.l (.l (.r (.l (.r (.r (.r (.r (.r (.r .root)))))))))))))))))))))),4),((.r (.r (.r (.r (.r (.l (.r (.l (.l (.r (.l (.r (.r (.r (.r (.r (.r .root))))))))))))))))),5)]
def d8:Code:=wz .skip (λc=>c) Tryz.f8.body
def q8:Ak:=[]
structure J8 where
 a0:U→H→Prop
 a1:U→Nat→Nat→Int→H→Prop
 a2:U→Nat→Nat→Int→H→Prop
def fO(_c:CF)(_k:KV)(J:J8)(a:U)(b:H):Prop:=
 J.a1 a 0 0 (vJ 0) b
def Zj(_c:CF)(a:KV)(J:J8)(b:U)(c d:Nat)(f:Int)(g:H):Prop:=
 Bz b λh=>
 V (Ba f (vJ h))
 (AM (λk2=>gate true (Ba (vJ 0) f)
 (Bo f λi=>
 A7 8 i b λj=>
 Ac 2 j λk=>
 Z k g λl=>
 Be l λm=>
 k2 m g)
 (k2 false g)) λn o=>
 V n
 (Nk c d 1 32 λp c11=>
 J.a2 b p c11 f o)
 (J.a2 b c d f o))
 (a (.str c d) g)
def fT(_c:CF)(_k:KV)(J:J8)(a:U)(b c:Nat)(d:Int)(f:H):Prop:=
 Bo d λg=>
 A7 8 g a λh=>
 Ac 1 h λi=>
 Z i f λj=>
 Bv j λk uG=>
 Nk b c k uG λl m=>
 fI (wrap .i64 (AW d (vJ 1))) λn=>
 J.a1 a l m n f
def z8:J8:=⟨λ_ _=>False,λ_ _ _ _ _=>False,λ_ _ _ _ _=>False⟩
def r8(c:CF)(k:KV)(m:Nat):J8:=vP z8 (λ_ J=>⟨fO c k J,Zj c k J,fT c k J⟩) m
def f8(J:J8):Jump:=λa f b=>match a with
 |0=>J.a0 (f 0) b
 |1=>Bv (f 3) λc d=>Ar .i64 (f 4) λg=>J.a1 (f 0) c d g b
 |2=>Bv (f 3) λc d=>Ar .i64 (f 4) λg=>J.a2 (f 0) c d g b
 |_=>False
def u8:As:=[(.root,0),((.l (.r (.l (.r (.r .root))))),1),((.r (.l (.l (.r (.l (.l (.r (.l (.r (.r .root)))))))))),2)]
def d9:Code:=wz .skip (λc=>c) Tryz.f9.body
def q9:Ak:=[]
structure J9 where
 a0:Nat→Nat→Int→Int→H→Prop
 a1:Int→Int→U→U→Int→H→Prop
 a2:Int→Int→U→U→Int→H→Prop
def gQ(a:CF)(_k:KV)(J:J9)(b c:Nat)(d f:Int)(g:H):Prop:=
 a (.func 23) [(.str b c)] g λh i=>
 a (.func 22) [h] i λj k=>
 J.a1 d f j .Af (vJ 0) k
def Zr(_c:CF)(a:KV)(J:J9)(b c:Int)(d f:U)(g:Int)(h:H):Prop:=
 Bz d λi=>
 V (Ba g (vJ i))
 (Bo g λj=>
 A7 3 j d λk=>
 Ac 1 k λl=>
 Z l h λm=>
 Ar .i64 m λn=>
 AM (λbX=>gate true (CJ b n)
 (Bo g λo=>
 A7 3 o d λp=>
 Ac 2 p λq=>
 Z q h λr=>
 Ar .i64 r λs=>
 bX (CJ s c) h)
 (bX false h)) λt u=>
 V t
 (Bo g λv=>
 A7 3 v d λw=>
 Ac 0 w λx=>
 Z x u λy=>
 Ar .u8 y λi=>
 oK (AE env 79 (λe j=>Ap 1 [(0,(.int .u8 i))] u e j)) λk l=>
 oK (AB env .append [79,79] [f,k] l) λm n=>
 J.a2 b c d m g n)
 (J.a2 b c d f g u))
 (oK (D4 env h 79 9 f) λo p=>
 Bv o λq r=>
 a (.str q r) p)
def aI(_c:CF)(_k:KV)(J:J9)(a b:Int)(c d:U)(f:Int)(g:H):Prop:=
 fI (wrap .i64 (AW f (vJ 1))) λh=>
 J.a1 a b c d h g
def z9:J9:=⟨λ_ _ _ _ _=>False,λ_ _ _ _ _ _=>False,λ_ _ _ _ _ _=>False⟩
def r9(c:CF)(k:KV)(m:Nat):J9:=vP z9 (λ_ J=>⟨gQ c k J,Zr c k J,aI c k J⟩) m
def f9(J:J9):Jump:=λa f h=>match a with
 |0=>Bv (f 0) λb c=>Ar .i64 (f 1) λd=>Ar .i64 (f 2) λg=>J.a0 b c d g h
 |1=>Ar .i64 (f 1) λd=>Ar .i64 (f 2) λg=>Ar .i64 (f 9) λi=>J.a1 d g (f 7) (f 8) i h
 |2=>Ar .i64 (f 1) λd=>Ar .i64 (f 2) λg=>Ar .i64 (f 9) λi=>J.a2 d g (f 7) (f 8) i h
 |_=>False
def u9:As:=[(.root,0),((.l (.r (.l (.r (.r (.r .root)))))),1),((.r (.r (.l (.l (.r (.l (.r (.r (.r .root))))))))),2)]
def d10:Code:=wz .skip (λc=>c) Tryz.f10.body
def q10:Ak:=[]
structure pL where
 a0:U→H→Prop
def W0(_c:CF)(a:KV)(_J:pL)(b:U)(c:H):Prop:=
 EX b λd=>
 Fa (vU 1 (len d))<|
 Hp.Bu c (rowOf 37 d) λf g=>
 Ac 1 (.ptr f 0) λh=>
 Z h g λi=>
 Ar .i64 i λj=>
 AM (λk7=>gate true (CJ (vJ 1) j)
 (Ac 1 (.ptr f 0) λk=>
 Z k g λl=>
 Ar .i64 l λm=>
 k7 (CJ m (vJ 100)) g)
 (k7 false g)) λn o=>
 AM (λk13=>gate true n
 (Ac 2 (.ptr f 0) λp=>
 Z p o λq=>
 Ar .i64 q λr=>
 k13 (CJ (vJ 0) r) o)
 (k13 false o)) λs t=>
 AM (λk19=>gate true s
 (Ac 2 (.ptr f 0) λu=>
 Z u t λv=>
 Ar .i64 v λw=>
 k19 (CJ w (vJ 200000)) t)
 (k19 false t)) λx y=>
 a (.bool x) y
def z10:pL:=⟨λ_ _=>False⟩
def cK(c:CF)(k:KV)(m:Nat):pL:=vP z10 (λ_ J=>⟨W0 c k J⟩) m
def f10(J:pL):Jump:=λL f h=>match L with
 |0=>J.a0 (f 0) h
 |_=>False
def u10:As:=[(.root,0)]
def d11:Code:=wz .skip (λc=>c) Tryz.f11.body
def q11:Ak:=[]
structure J11 where
 a0:U→H→Prop
def W9(a:CF)(b:KV)(_J:J11)(c:U)(d:H):Prop:=
 Bz c λf=>
 AM (λk2=>gate false (Ba (vJ 10) (vJ f))
 (a (.func 26) [c,(.func (.func 24) [] [])] d λg h=>
 Be g λi=>
 k2 i h)
 (k2 true d)) λj k=>
 V j
 (b (.tuple [.Bn,(.int .i64 (vJ 1))]) k)
 (a (.func 27) [c] k λl m=>
 Hp.Bu m (.map [] 0) λn o=>
 Hp.Bu o (.map [] 0) λp q=>
 oK (AF env (env.ty 86) [(0,l),(1,(.map n)),(2,(.map p))] q) λr s=>
 EX r λaf=>
 Fa (vU 1 (len af))<|
 Hp.Bu s (rowOf 86 af) λt u=>
 b (.tuple [(.ptr t 0),(.int .i64 (vJ 0))]) u)
def z11:J11:=⟨λ_ _=>False⟩
def ot(c:CF)(k:KV)(m:Nat):J11:=vP z11 (λ_ J=>⟨W9 c k J⟩) m
def f11(J:J11):Jump:=λL f h=>match L with
 |0=>J.a0 (f 0) h
 |_=>False
def u11:As:=[(.root,0)]
def d12:Code:=wz .skip (λc=>c) Tryz.f12.body
def q12:Ak:=[]
structure uB where
 a0:U→Nat→Nat→Nat→Nat→H→Prop
def Xh(a:CF)(b:KV)(_J:uB)(c:U)(d f:Nat)(g h:Nat)(i:H):Prop:=
 oV (Dh env .eql 23 c .Bn) λj=>
 Be j λk=>
 V k
 (b (.int .i64 (vJ 2)) i)
 (a (.func 25) [(.str d f)] i λl m=>
 Be l λn=>
 V (Bm n)
 (b (.int .i64 (vJ 1)) m)
 (oK (Ag c m) λo p=>
 Ac 1 o λq=>
 Z q p λr=>
 oK (BO env 83 r (.str d f) true p) λs t=>
 ext 0 s λ_=>
 ext 1 s λu=>
 Be u λv=>
 V v
 (b (.int .i64 (vJ 3)) t)
 (oK (Ag c t) λw x=>
 Ac 1 w λy=>
 Z y x λj=>
 oK (Hr env [83] j x) λk i=>
 Ar .i64 k λl=>
 V (CJ (vJ 50) l)
 (b (.int .i64 (vJ 4)) i)
 (a (.func 28) [(.str g h)] i λn m=>
 ext 0 n λo=>
 ext 1 n λq=>
 Ar .i64 q λp=>
 a (.func 29) [c,(.str d f),o,(.int .i64 p)] m λr s=>
 Ar .i64 r λu=>
 b (.int .i64 u) s))))
def z12:uB:=⟨λ_ _ _ _ _ _=>False⟩
def XV(c:CF)(k:KV)(m:Nat):uB:=vP z12 (λ_ J=>⟨Xh c k J⟩) m
def f12(J:uB):Jump:=λa f b=>match a with
 |0=>Bv (f 1) λc d=>Bv (f 2) λg h=>J.a0 (f 0) c d g h b
 |_=>False
def u12:As:=[(.root,0)]
def d13:Code:=wz .skip (λc=>c) Tryz.f13.body
def q13:Ak:=[]
def u13:As:=[(.root,0)]
def d14:Code:=wz .skip (λc=>c) Tryz.f14.body
def q14:Ak:=[(4,[0,1,2,4,5,7,8,3,6,9,10,11])]
structure qL where
 a0:U→Nat→Nat→U→U→H→Prop
def VU(c:CF)(a:KV)(_J:qL)(b:U)(d f:Nat)(g h:U)(i:H):Prop:=
 EX g λj=>
 Fa (vU 1 (len j))<|
 Hp.Bu i (rowOf 37 j) λk l=>
 EX h λm=>
 Fa (vU 1 (len m))<|
 Hp.Bu l (rowOf 67 m) λn o=>
 Hp.Bu o qt λp q=>
 c (.func 33) [b,(.str d f)] q λr s=>
 ext 0 r λ_=>
 ext 1 r λt=>
 Be t λu=>
 AM (λOL=>gate false (Bm u)
 (A3 3 (.ptr k 0) s λv=>
 c (.func 10) [v] s λw x=>
 Be w λy=>
 OL (Bm y) x)
 (OL true s)) λg i=>
 V g
 (oK (AF env (env.ty 34) [] i) λj h=>
 CV 5 (.ptr p 0) j h λl=>
 A3 5 (.ptr p 0) l λm=>
 a m l)
 (A3 3 (.ptr k 0) i λo=>
 A3 2 (.ptr n 0) i λq=>
 Ac 2 (.ptr k 0) λr=>
 Z r i λt=>
 Ar .i64 t λu=>
 Hp.Bu i (.map [] 0) λv w=>
 A3 3 (.ptr k 0) w λx=>
 BE x o<|
 A3 2 (.ptr n 0) w λy=>
 BE y q<|
 Z r w λs=>
 Ar .i64 s λg=>
 BE (.int .i64 g) (.int .i64 u)<|
 Hp.Bu w (.map [] 0) λh j=>
 A3 3 (.ptr k 0) j λl=>
 BE l o<|
 A3 2 (.ptr n 0) j λm=>
 BE m q<|
 Z r j λt=>
 Ar .i64 t λi=>
 BE (.int .i64 i) (.int .i64 u)<|
 c (.func 34) [] j λx y=>
 A3 3 (.ptr k 0) y λs=>
 BE s o<|
 A3 2 (.ptr n 0) y λg=>
 BE g q<|
 Z r y λw=>
 Ar .i64 w λl=>
 BE (.int .i64 l) (.int .i64 u)<|
 c (.func 35) [(.int .i64 u)] y λm t=>
 A3 3 (.ptr k 0) t λi=>
 BE i o<|
 A3 2 (.ptr n 0) t λj=>
 BE j q<|
 oK (AF env (env.ty 102) [(0,b),(1,o),(2,q),(3,x),(4,m),(6,(.map v)),(7,(.map h))] t) λs g=>
 EX s λg54=>
 Fa (vU 1 (len g54))<|
 Hp.Bu g (rowOf 102 g54) λr w=>
 c (.func 36) [(.ptr r 0),(.str d f)] w λ_ l=>
 oK (Ag (.ptr r 0) l) λu y=>
 Ac 13 u λk=>
 Z k y λi=>
 c (.func 38) [i] y λn j=>
 c (.func 37) [n] j λb h=>
 oK (Ag (.ptr r 0) h) λm o=>
 Ac 8 m λq=>
 Ac 2 q λt=>
 BC t b o λv=>
 oK (Ag (.ptr r 0) v) λx s=>
 Ac 14 x λg=>
 Z g s λd=>
 c (.func 38) [d] s λf w=>
 c (.func 37) [f] w λl u=>
 oK (Ag (.ptr r 0) u) λk i=>
 Ac 8 k λy=>
 Ac 3 y λj=>
 BC j l i λn=>
 oK (Ag (.ptr r 0) n) λh m=>
 Ac 8 h λq=>
 A3 5 q m λb=>
 CV 5 (.ptr p 0) b m λo=>
 A3 5 (.ptr p 0) o λt=>
 a t o)
def z14:qL:=⟨λ_ _ _ _ _ _=>False⟩
def oF(c:CF)(k:KV)(m:Nat):qL:=vP z14 (λ_ J=>⟨VU c k J⟩) m
def f14(J:qL):Jump:=λa f b=>match a with
 |0=>Bv (f 1) λc d=>J.a0 (f 0) c d (f 2) (f 3) b
 |_=>False
def u14:As:=[(.root,0)]
def d15:Code:=wz .skip (λc=>c) Tryz.f15.body
def q15:Ak:=[]
structure dR where
 a0:Nat→Nat→Nat→Nat→H→Prop
 a1:Nat→Nat→U→Int→Int→H→Prop
def VT(a:CF)(_k:KV)(J:dR)(b c:Nat)(d f:Nat)(g:H):Prop:=
 Hp.Bu g tF λh i=>
 a (.func 39) [(.str b c),(.str d f)] i λj k=>
 ext 0 j λl=>
 ext 1 j λm=>
 Ac 0 (.ptr h 0) λn=>
 BC n l k λo=>
 Ac 1 (.ptr h 0) λp=>
 BC p m o λq=>
 J.a1 d f (.ptr h 0) (vJ d) (vJ 0) q
def Vm(_c:CF)(a:KV)(J:dR)(b c:Nat)(d:U)(f g:Int)(h:H):Prop:=
 V (Ba g f)
 (Bo g λi=>
 FG b c i λj=>
 V (AN (vJ j) (vJ 10))
 (Ac 2 d λk=>
 Z k h λl=>
 fI (wrap .i64 (AW g (vJ 1))) λm=>
 oK (AE env 58 (λe n=>Ap 1 [(0,(.int .i64 m))] h e n)) λo p=>
 oK (AB env .append [58,58] [l,o] p) λq r=>
 Ac 2 d λs=>
 BC s q r λt=>
 fI (wrap .i64 (AW g (vJ 1))) λu=>
 J.a1 b c d f u t)
 (fI (wrap .i64 (AW g (vJ 1))) λv=>
 J.a1 b c d f v h))
 (A3 3 d h λw=>
 CV 3 d w h λx=>
 A3 3 d x λy=>
 a y x)
def z15:dR:=⟨λ_ _ _ _ _=>False,λ_ _ _ _ _ _=>False⟩
def Z5(c:CF)(k:KV)(m:Nat):dR:=vP z15 (λ_ J=>⟨VT c k J,Vm c k J⟩) m
def f15(J:dR):Jump:=λa f b=>match a with
 |0=>Bv (f 0) λc d=>Bv (f 1) λg h=>J.a0 c d g h b
 |1=>Bv (f 1) λg h=>Ar .i64 (f 15) λi=>Ar .i64 (f 16) λj=>J.a1 g h (f 4) i j b
 |_=>False
def u15:As:=[(.root,0),((.l (.r (.l (.r (.r .root))))),1)]
def d16:Code:=wz .skip (λc=>c) Tryz.f16.body
def q16:Ak:=[(5,[0,1,2,3,4,5,6,7,8,9,10,11]),(12,[0,1,2,3,4,5,6,7,8,9,10,11,12,13,14,15,16,17,18,19,20,23,21,22,24,25,26,27,28]),(4294967294,[9]),(4294967295,[89])]
def BL:OX:=fE q16 (GZ d16 (.l (.r (.l (.r (.r .root))))))
structure cG where
 a0:U→U→U→U→H→Prop
 a1:U→U→U→Int→Int→H→Prop
def RX(a:CF)(_k:KV)(J:cG)(b c:U)(d f:U)(g:H):Prop:=
 EX d λh=>
 Fa (vU 1 (len h))<|
 Hp.Bu g (rowOf 114 h) λi j=>
 Hp.Bu j Auj λk l=>
 A3 3 (.ptr i 0) l λm=>
 Hp.Bu l (.map [] 0) λn o=>
 oK (AF env (env.ty 120) [(0,b),(1,m),(2,f),(3,(.map n))] o) λp q=>
 EX p λg11=>
 Fa (vU 1 (len g11))<|
 Hp.Bu q (rowOf 120 g11) λr s=>
 oK (AF env (env.ty 123) [(0,(.ptr r 0)),(1,(.bool true))] s) λt u=>
 EX t λaf=>
 Fa (vU 1 (len af))<|
 Hp.Bu u (rowOf 123 af) λv w=>
 Hp.Bu w Avk λx y=>
 BC (.ptr x 0) (.ptr v 0) y λd=>
 a (.func 40) [c] d λg h=>
 NP env a BL g (Aq (λ_=>.top) 9 (.ptr x 0)) h λj i=>
 V (Sd j .normal)
 (Z (.ptr x 0) i λl=>
 a (.func 42) [l] i λb f=>
 Bz b λm=>
 J.a1 (.ptr k 0) (.ptr x 0) b (vJ m) (vJ 0) f)
 (False)
def ON(c:CF)(a:KV)(J:cG)(b d f:U)(g h:Int)(i:H):Prop:=
 V (Ba h g)
 (Bo h λj=>
 A7 9 j f λk=>
 A3 9 k i λl=>
 Hp.Bu i dm λm n=>
 CV 9 (.ptr m 0) l n λo=>
 Ac 0 (.ptr m 0) λp=>
 Ac 7 p λq=>
 Z q o λr=>
 c (.func 41) [r] o λs t=>
 Ac 0 (.ptr m 0) λu=>
 Ac 7 u λv=>
 BC v s t λw=>
 Ac 0 b λx=>
 Z x w λy=>
 Ac 0 (.ptr m 0) λj=>
 A3 8 j w λk=>
 oK (AE env 30 (λe l=>Ap 1 [(0,k)] w e l)) λn p=>
 oK (AB env .append [30,30] [y,n] p) λq o=>
 Ac 0 b λr=>
 BC r q o λu=>
 fI (wrap .i64 (AW h (vJ 1))) λs=>
 J.a1 b d f g s u)
 (Z d i λt=>
 oK (Ag t i) λv x=>
 Ac 0 v λm=>
 Z m x λj=>
 oK (Ag j x) λk l=>
 Ac 6 k λw=>
 Z w l λn=>
 Z d l λp=>
 oK (Ag p l) λy o=>
 Ac 0 y λq=>
 Z q o λr=>
 oK (Ag r o) λh f=>
 Ac 7 h λg=>
 Z g f λs=>
 Be s λu=>
 Z d f λi=>
 oK (Ag i f) λv x=>
 Ac 0 v λk=>
 Z k x λl=>
 oK (Ag l x) λy o=>
 Ac 5 y λh=>
 Z h o λs=>
 Ac 1 b λf=>
 c (.func 38) [s] o λi v=>
 Z d v λk=>
 BE k t<|
 Z m v λl=>
 BE l j<|
 Z w v λx=>
 BE x n<|
 Z d v λy=>
 BE y p<|
 Z q v λh=>
 BE h r<|
 Z g v λo=>
 Be o λs=>
 BE (.bool s) (.bool u)<|
 c (.func 37) [i] v λk l=>
 Z d l λx=>
 BE x t<|
 Z m l λy=>
 BE y j<|
 Z w l λh=>
 BE h n<|
 Z d l λo=>
 BE o p<|
 Z q l λs=>
 BE s r<|
 Z g l λi=>
 Be i λv=>
 BE (.bool v) (.bool u)<|
 BC f n l λt=>
 Z d t λx=>
 BE x p<|
 Z q t λm=>
 BE m r<|
 Z g t λj=>
 Be j λy=>
 BE (.bool y) (.bool u)<|
 Ac 2 b λw=>
 BC w (.bool u) t λh=>
 Ac 3 b λo=>
 BC o k h λs=>
 A3 4 b s λi=>
 CV 4 b i s λv=>
 A3 4 b v λf=>
 a f v)
def z16:cG:=⟨λ_ _ _ _ _=>False,λ_ _ _ _ _ _=>False⟩
def r16(c:CF)(k:KV)(m:Nat):cG:=vP z16 (λ_ J=>⟨RX c k J,ON c k J⟩) m
def f16(J:cG):Jump:=λa f b=>match a with
 |0=>J.a0 (f 0) (f 1) (f 2) (f 3) b
 |1=>Ar .i64 (f 43) λc=>Ar .i64 (f 44) λd=>J.a1 (f 8) (f 9) (f 42) c d b
 |_=>False
def u16:As:=[(.root,0),((.l (.r (.l (.r (.r (.r .root)))))),1)]
def d17:Code:=wz .skip (λc=>c) Tryz.f17.body
def q17:Ak:=[]
structure J17 where
 a0:Nat→Nat→H→Prop
def Tv(a:CF)(b:KV)(_J:J17)(c d:Nat)(f:H):Prop:=
 a (.func 23) [(.str c d)] f λg h=>
 a (.func 22) [g] h λi j=>
 AM (λk5=>gate true (Ba (vJ 0) (vJ c))
 (Bz i λk=>
 AM (λk9=>gate false (AN (vJ k) (vJ 0))
 (Bz i λl=>
 fI (wrap .i64 (EU (vJ l) (vJ 1))) λm=>
 Bo m λn=>
 A7 3 n i λo=>
 Ac 0 o λp=>
 Z p j λq=>
 Ar .u8 q λr=>
 k9 (Bm (AN r (vJ 10))) j)
 (k9 true j)) λs t=>
 k5 s t)
 (k5 false j)) λu v=>
 V u
 (oK (AF env (env.ty 71) [(0,(.int .u8 (vJ 10))),(1,(.int .i64 (vJ c))),(2,(.int .i64 (vJ c)))] v) λw x=>
 oK (AE env 68 (λe y=>Ap 1 [(0,w)] x e y)) λd f=>
 oK (AB env .append [68,68] [i,d] f) λa g=>
 b a g)
 (b i v)
def z17:J17:=⟨λ_ _ _=>False⟩
def mZ(c:CF)(k:KV)(m:Nat):J17:=vP z17 (λ_ J=>⟨Tv c k J⟩) m
def f17(J:J17):Jump:=λa f b=>match a with
 |0=>Bv (f 0) λc d=>J.a0 c d b
 |_=>False
def u17:As:=[(.root,0)]
def d18:Code:=wz .skip (λc=>c) Tryz.f18.body
def q18:Ak:=[]
structure J18 where
 a0:Int→H→Prop
def WL(_c:CF)(a:KV)(_J:J18)(b:Int)(c:H):Prop:=
 AM (λk1=>gate false (AN b (vJ 32))
 (k1 (AN b (vJ 9)) c)
 (k1 true c)) λd f=>
 AM (λk4=>gate false d
 (AM (λk7=>gate true (CJ (vJ 11) b)
 (k7 (CJ b (vJ 13)) f)
 (k7 false f)) λg h=>
 k4 g h)
 (k4 true f)) λi j=>
 a (.bool i) j
def z18:J18:=⟨λ_ _=>False⟩
def uU(c:CF)(k:KV)(m:Nat):J18:=vP z18 (λ_ J=>⟨WL c k J⟩) m
def f18(J:J18):Jump:=λa f b=>match a with
 |0=>Ar .u8 (f 0) λc=>J.a0 c b
 |_=>False
def u18:As:=[(.root,0)]
def d19:Code:=wz .skip (λc=>c) Tryz.f19.body
def T9:Ak:=[]
structure Xl where
 a0:U→Int→H→Prop
 a1:U→Int→H→Prop
 a2:U→Int→H→Prop
def XL(a:CF)(b:KV)(J:Xl)(c:U)(d:Int)(f:H):Prop:=
 a (.func 43) [c,(.int .i64 d)] f λg h=>
 Ar .u8 g λi=>
 V (Bm (AN i (vJ 47)))
 (b (.tuple [(.int .i64 d),(.bool false)]) h)
 (fI (wrap .i64 (AW d (vJ 1))) λj=>
 a (.func 43) [c,(.int .i64 j)] h λk l=>
 Ar .u8 k λm=>
 V (AN m (vJ 47))
 (J.a1 c d l)
 (fI (wrap .i64 (AW d (vJ 1))) λn=>
 a (.func 43) [c,(.int .i64 n)] l λo p=>
 Ar .u8 o λq=>
 V (Bm (AN q (vJ 42)))
 (b (.tuple [(.int .i64 d),(.bool false)]) p)
 (fI (wrap .i64 (AW d (vJ 2))) λr=>
 J.a2 c r p)))
def pf(_c:CF)(a:KV)(J:Xl)(b:U)(c:Int)(d:H):Prop:=
 Bz b λf=>
 AM (λOL=>gate true (Ba c (vJ f))
 (Bo c λg=>
 A7 3 g b λh=>
 Ac 0 h λi=>
 Z i d λj=>
 Ar .u8 j λk=>
 OL (Bm (AN k (vJ 10))) d)
 (OL false d)) λl m=>
 V l
 (fI (wrap .i64 (AW c (vJ 1))) λn=>
 J.a1 b n m)
 (a (.tuple [(.int .i64 c),(.bool false)]) m)
def Adf(a:CF)(b:KV)(J:Xl)(c:U)(d:Int)(f:H):Prop:=
 Bz c λg=>
 V (Ba d (vJ g))
 (Bo d λh=>
 A7 3 h c λi=>
 Ac 0 i λj=>
 Z j f λk=>
 Ar .u8 k λl=>
 AM (λk29=>gate true (AN l (vJ 42))
 (fI (wrap .i64 (AW d (vJ 1))) λm=>
 a (.func 43) [c,(.int .i64 m)] f λn o=>
 Ar .u8 n λp=>
 k29 (AN p (vJ 47)) o)
 (k29 false f)) λq r=>
 V q
 (fI (wrap .i64 (AW d (vJ 2))) λs=>
 b (.tuple [(.int .i64 s),(.bool false)]) r)
 (fI (wrap .i64 (AW d (vJ 1))) λt=>
 J.a2 c t r))
 (Bz c λu=>
 b (.tuple [(.int .i64 (vJ u)),(.bool true)]) f)
def z19:Xl:=⟨λ_ _ _=>False,λ_ _ _=>False,λ_ _ _=>False⟩
def O7(c:CF)(k:KV)(m:Nat):Xl:=vP z19 (λ_ J=>⟨XL c k J,pf c k J,Adf c k J⟩) m
def f19(J:Xl):Jump:=λa f b=>match a with
 |0=>Ar .i64 (f 1) λc=>J.a0 (f 0) c b
 |1=>Ar .i64 (f 6) λd=>J.a1 (f 0) d b
 |2=>Ar .i64 (f 7) λg=>J.a2 (f 0) g b
 |_=>False
def u19:As:=[(.root,0),((.l (.l (.r (.l (.r (.l (.r (.r .root)))))))),1),((.l (.r (.l (.r (.r (.r (.r .root))))))),2)]
def d20:Code:=wz .skip (λc=>c) Tryz.f20.body
def q20:Ak:=[]
structure WX where
 a0:U→Int→H→Prop
 a1:U→Int→H→Prop
 a2:U→Int→H→Prop
def Vl(a:CF)(b:KV)(J:WX)(c:U)(d:Int)(f:H):Prop:=
 a (.func 44) [c,(.int .i64 d)] f λg h=>
 Ar .i64 g λi=>
 V (CJ (vJ 0) i)
 (fI (wrap .i64 (AW d i)) λj=>
 a (.func 45) [c,(.int .i64 j)] h λk l=>
 Ar .i64 k λm=>
 AM (λk8=>gate true (Ba (vJ 0) m)
 (fI (wrap .i64 (AW d i)) λn=>
 a (.func 43) [c,(.int .i64 n)] l λo p=>
 Ar .u8 o λq=>
 k8 (AN q (vJ 34)) p)
 (k8 false l)) λr s=>
 V r
 (b (.tuple [(.int .i64 (vJ 4)),(.int .i64 m),(.bool false)]) s)
 (V (Ba (vJ 0) m)
 (b (.tuple [(.int .i64 (vJ 3)),(.int .i64 m),(.bool false)]) s)
 (V (AN i (vJ 0))
 (fI (wrap .i64 (AW d (vJ 1))) λt=>
 b (.tuple [(.int .i64 (vJ 6)),(.int .i64 t),(.bool true)]) s)
 (J.a2 c d s))))
 (J.a2 c d h)
def WQ(a:CF)(b:KV)(J:WX)(c:U)(d:Int)(f:H):Prop:=
 a (.func 43) [c,(.int .i64 d)] f λg h=>
 Ar .u8 g λi=>
 a (.func 46) [(.int .u8 i)] h λj k=>
 Be j λl=>
 AM (λk22=>gate false l
 (a (.func 43) [c,(.int .i64 d)] k λm n=>
 Ar .u8 m λo=>
 a (.func 47) [(.int .u8 o)] n λp q=>
 Be p λr=>
 k22 r q)
 (k22 true k)) λs t=>
 V s
 (fI (wrap .i64 (AW d (vJ 1))) λu=>
 J.a1 c u t)
 (b (.tuple [(.int .i64 (vJ 1)),(.int .i64 d),(.bool false)]) t)
def V4(a:CF)(b:KV)(J:WX)(c:U)(d:Int)(f:H):Prop:=
 a (.func 43) [c,(.int .i64 d)] f λg h=>
 Ar .u8 g λi=>
 a (.func 46) [(.int .u8 i)] h λj k=>
 Be j λl=>
 V l
 (fI (wrap .i64 (AW d (vJ 1))) λm=>
 J.a1 c m k)
 (a (.func 48) [c,(.int .i64 d)] k λn o=>
 Ar .i64 n λp=>
 V (Ba d p)
 (b (.tuple [(.int .i64 (vJ 2)),(.int .i64 p),(.bool false)]) o)
 (a (.func 49) [c,(.int .i64 d)] o λq r=>
 Ar .i64 q λs=>
 V (Ba (vJ 0) s)
 (fI (wrap .i64 (AW d s)) λt=>
 b (.tuple [(.int .i64 (vJ 5)),(.int .i64 t),(.bool false)]) r)
 (fI (wrap .i64 (AW d (vJ 1))) λu=>
 b (.tuple [(.int .i64 (vJ 6)),(.int .i64 u),(.bool false)]) r)))
def z20:WX:=⟨λ_ _ _=>False,λ_ _ _=>False,λ_ _ _=>False⟩
def Ub(c:CF)(k:KV)(m:Nat):WX:=vP z20 (λ_ J=>⟨Vl c k J,WQ c k J,V4 c k J⟩) m
def f20(J:WX):Jump:=λa f b=>match a with
 |0=>Ar .i64 (f 1) λc=>J.a0 (f 0) c b
 |1=>Ar .i64 (f 9) λd=>J.a1 (f 0) d b
 |2=>Ar .i64 (f 1) λc=>J.a2 (f 0) c b
 |_=>False
def u20:As:=[(.root,0),((.l (.l (.r (.l (.r (.l (.r (.r (.r .root))))))))),1),((.r (.r (.r .root))),2)]
def d21:Code:=wz .skip (λc=>c) Tryz.f21.body
def q21:Ak:=[]
structure bY where
 a0:U→H→Prop
 a1:U→U→Int→H→Prop
def XD(_c:CF)(_k:KV)(J:bY)(a:U)(b:H):Prop:=
 J.a1 a .Af (vJ 0) b
def Wq(_c:CF)(a:KV)(J:bY)(b c:U)(d:Int)(f:H):Prop:=
 Bz b λg=>
 V (Ba d (vJ g))
 (Bo d λh=>
 A7 3 h b λi=>
 Ac 0 i λj=>
 Z j f λk=>
 Ar .u8 k λl=>
 oK (AE env 79 (λe m=>Ap 1 [(0,(.int .u8 l))] f e m)) λn o=>
 oK (AB env .append [79,79] [c,n] o) λp q=>
 fI (wrap .i64 (AW d (vJ 1))) λr=>
 J.a1 b p r q)
 (oK (D4 env f 79 9 c) λs t=>
 Bv s λu bV=>
 a (.str u bV) t)
def z21:bY:=⟨λ_ _=>False,λ_ _ _ _=>False⟩
def Ys(c:CF)(k:KV)(m:Nat):bY:=vP z21 (λ_ J=>⟨XD c k J,Wq c k J⟩) m
def f21(J:bY):Jump:=λa f b=>match a with
 |0=>J.a0 (f 0) b
 |1=>Ar .i64 (f 4) λc=>J.a1 (f 0) (f 3) c b
 |_=>False
def u21:As:=[(.root,0),((.l (.r (.l (.r (.r .root))))),1)]
def d22:Code:=wz .skip (λc=>c) Tryz.f22.body
def q22:Ak:=[]
structure X8 where
 a0:U→H→Prop
 a1:U→U→Int→H→Prop
 a2:U→U→Int→H→Prop
def Tn(_c:CF)(_k:KV)(J:X8)(a:U)(b:H):Prop:=
 J.a1 a .Af (vJ 0) b
def OF(_c:CF)(a:KV)(J:X8)(b c:U)(d:Int)(f:H):Prop:=
 Bz b λg=>
 V (Ba d (vJ g))
 (Bo d λh=>
 A7 3 h b λi=>
 Ac 0 i λj=>
 Z j f λk=>
 Ar .u8 k λl=>
 AM (λk7=>gate true (AN l (vJ 92))
 (fI (wrap .i64 (AW d (vJ 1))) λm=>
 Bz b λn=>
 k7 (Ba m (vJ n)) f)
 (k7 false f)) λo p=>
 AM (λcR=>gate true o
 (fI (wrap .i64 (AW d (vJ 1))) λq=>
 Bo q λr=>
 A7 3 r b λs=>
 Ac 0 s λt=>
 Z t p λu=>
 Ar .u8 u λv=>
 cR (AN v (vJ 10)) p)
 (cR false p)) λw x=>
 V w
 (fI (wrap .i64 (AW d (vJ 1))) λy=>
 J.a2 b c y x)
 (Bo d λg=>
 A7 3 g b λh=>
 A3 3 h x λi=>
 oK (AE env 68 (λe j=>Ap 1 [(0,i)] x e j)) λk l=>
 oK (AB env .append [68,68] [c,k] l) λm n=>
 J.a2 b m d n))
 (a c f)
def OJ(_c:CF)(_k:KV)(J:X8)(a b:U)(c:Int)(d:H):Prop:=
 fI (wrap .i64 (AW c (vJ 1))) λf=>
 J.a1 a b f d
def z22:X8:=⟨λ_ _=>False,λ_ _ _ _=>False,λ_ _ _ _=>False⟩
def PN(c:CF)(k:KV)(m:Nat):X8:=vP z22 (λ_ J=>⟨Tn c k J,OF c k J,OJ c k J⟩) m
def f22(J:X8):Jump:=λa f b=>match a with
 |0=>J.a0 (f 0) b
 |1=>Ar .i64 (f 4) λc=>J.a1 (f 0) (f 3) c b
 |2=>Ar .i64 (f 4) λc=>J.a2 (f 0) (f 3) c b
 |_=>False
def u22:As:=[(.root,0),((.l (.r (.l (.r (.r .root))))),1),((.r (.r (.l (.l (.r (.l (.r (.r .root)))))))),2)]
def d23:Code:=wz .skip (λc=>c) Tryz.f23.body
def q23:Ak:=[]
structure XP where
 a0:Nat→Nat→H→Prop
 a1:Nat→Nat→U→Int→H→Prop
 a2:Nat→Nat→U→Int→H→Prop
def Sr(_c:CF)(_k:KV)(J:XP)(a b:Nat)(c:H):Prop:=
 J.a1 a b .Af (vJ 0) c
def RN(a:CF)(b:KV)(J:XP)(c d:Nat)(f:U)(g:Int)(h:H):Prop:=
 V (Ba g (vJ c))
 (fI (wrap .i64 (AW g (vJ 2))) λi=>
 AM (λk2=>gate true (Ba i (vJ c))
 (Bo g λj=>
 FG c d j λk=>
 k2 (AN (vJ k) (vJ 63)) h)
 (k2 false h)) λl m=>
 AM (λk7=>gate true l
 (fI (wrap .i64 (AW g (vJ 1))) λn=>
 Bo n λo=>
 FG c d o λp=>
 k7 (AN (vJ p) (vJ 63)) m)
 (k7 false m)) λq r=>
 V q
 (fI (wrap .i64 (AW g (vJ 2))) λs=>
 Bo s λt=>
 FG c d t λu=>
 a (.func 50) [(.int .u8 (vJ u))] r λv w=>
 ext 0 v λx=>
 Ar .u8 x λy=>
 ext 1 v λi=>
 Be i λj=>
 V j
 (fI (wrap .i64 (AW g (vJ 3))) λk=>
 oK (AF env (env.ty 71) [(0,(.int .u8 y)),(1,(.int .i64 g)),(2,(.int .i64 k))] w) λl n=>
 oK (AE env 68 (λe o=>Ap 1 [(0,l)] n e o)) λp m=>
 oK (AB env .append [68,68] [f,p] m) λq s=>
 fI (wrap .i64 (AW g (vJ 3))) λt=>
 J.a1 c d q t s)
 (J.a2 c d f g w))
 (J.a2 c d f g r))
 (b f h)
def SI(_c:CF)(_k:KV)(J:XP)(a b:Nat)(c:U)(d:Int)(f:H):Prop:=
 Bo d λg=>
 FG a b g λh=>
 fI (wrap .i64 (AW d (vJ 1))) λi=>
 oK (AF env (env.ty 71) [(0,(.int .u8 (vJ h))),(1,(.int .i64 d)),(2,(.int .i64 i))] f) λj k=>
 oK (AE env 68 (λe l=>Ap 1 [(0,j)] k e l)) λm n=>
 oK (AB env .append [68,68] [c,m] n) λo p=>
 fI (wrap .i64 (AW d (vJ 1))) λq=>
 J.a1 a b o q p
def z23:XP:=⟨λ_ _ _=>False,λ_ _ _ _ _=>False,λ_ _ _ _ _=>False⟩
def PT(c:CF)(k:KV)(m:Nat):XP:=vP z23 (λ_ J=>⟨Sr c k J,RN c k J,SI c k J⟩) m
def f23(J:XP):Jump:=λa f b=>match a with
 |0=>Bv (f 0) λc d=>J.a0 c d b
 |1=>Bv (f 0) λc d=>Ar .i64 (f 4) λg=>J.a1 c d (f 3) g b
 |2=>Bv (f 0) λc d=>Ar .i64 (f 4) λg=>J.a2 c d (f 3) g b
 |_=>False
def u23:As:=[(.root,0),((.l (.r (.l (.r (.r .root))))),1),((.r (.l (.r (.l (.l (.r (.l (.r (.r .root))))))))),2)]
def d25:Code:=wz .skip (λc=>c) Tryz.f25.body
def q25:Ak:=[(4294967294,[2]),(4294967295,[13])]
def Bhw:OX:=fE q25 (GZ d25 (.l (.r (.l (.r (.r .root))))))
def u25:As:=[(.root,0)]
def d26:Code:=wz .skip (λc=>c) Tryz.f26.body
def q26:Ak:=[]
structure nJ where
 a0:U→U→H→Prop
def V8(a:CF)(b:KV)(_J:nJ)(c d:U)(f:H):Prop:=
 a (.func 53) [c,d] f λg h=>
 Ar .i64 g λi=>
 b (.bool (CJ (vJ 0) i)) h
def z26:nJ:=⟨λ_ _ _=>False⟩
def pv(c:CF)(k:KV)(m:Nat):nJ:=vP z26 (λ_ J=>⟨V8 c k J⟩) m
def f26(J:nJ):Jump:=λL f h=>match L with
 |0=>J.a0 (f 0) (f 1) h
 |_=>False
def u26:As:=[(.root,0)]
def d27:Code:=wz .skip (λc=>c) Tryz.f27.body
def q27:Ak:=[]
structure rZ where
 a0:U→H→Prop
def Vy(_c:CF)(a:KV)(_J:rZ)(b:U)(c:H):Prop:=
 oV (Dh env .eql 32 b .Af) λd=>
 Be d λf=>
 V f
 (a .Af c)
 (oK (AE env 32 (λe g=>Ap 0 [] c e g)) λh i=>
 oK (AB env .append [32,32] [h,b] i) λj k=>
 a j k)
def z27:rZ:=⟨λ_ _=>False⟩
def mN(c:CF)(k:KV)(m:Nat):rZ:=vP z27 (λ_ J=>⟨Vy c k J⟩) m
def f27(J:rZ):Jump:=λL f h=>match L with
 |0=>J.a0 (f 0) h
 |_=>False
def u27:As:=[(.root,0)]
def d28:Code:=wz .skip (λc=>c) Tryz.f28.body
def q28:Ak:=[]
structure rM where
 a0:Nat→Nat→H→Prop
def VW(a:CF)(b:KV)(_J:rM)(c d:Nat)(f:H):Prop:=
 V (Ba (vJ 65536) (vJ c))
 (b (.tuple [.Bn,(.int .i64 (vJ 4))]) f)
 (a (.func 55) [(.str c d)] f λg h=>
 a (.func 54) [g] h λi j=>
 b (.tuple [i,(.int .i64 (vJ 0))]) j)
def z28:rM:=⟨λ_ _ _=>False⟩
def lE(c:CF)(k:KV)(m:Nat):rM:=vP z28 (λ_ J=>⟨VW c k J⟩) m
def f28(J:rM):Jump:=λa f b=>match a with
 |0=>Bv (f 0) λc d=>J.a0 c d b
 |_=>False
def u28:As:=[(.root,0)]
def d29:Code:=wz .skip (λc=>c) Tryz.f29.body
def q29:Ak:=[]
structure oh where
 a0:U→Nat→Nat→U→Int→H→Prop
def Xa(a:CF)(b:KV)(_J:oh)(c:U)(d f:Nat)(g:U)(h:Int)(i:H):Prop:=
 V (AN h (vJ 0))
 (oK (Ag c i) λj k=>
 Ac 1 j λl=>
 Z l k λm=>
 oK (Cg env 83 m (.str d f) g k) λ_ n=>
 a (.func 56) [c,(.str d f)] n λ_ o=>
 b (.int .i64 h) o)
 (b (.int .i64 h) i)
def z29:oh:=⟨λ_ _ _ _ _ _=>False⟩
def r29(c:CF)(k:KV)(m:Nat):oh:=vP z29 (λ_ J=>⟨Xa c k J⟩) m
def f29(J:oh):Jump:=λa f b=>match a with
 |0=>Bv (f 1) λc d=>Ar .i64 (f 3) λg=>J.a0 (f 0) c d (f 2) g b
 |_=>False
def u29:As:=[(.root,0)]
def d30:Code:=wz .skip (λc=>c) Tryz.f30.body
def q30:Ak:=[(4,[0,1,2,3,4,5,6,7,8,9,10,11,12,13,14,15,16,17,18,19,20,21])]
def u30:As:=[(.root,0),((.l (.l (.r (.r .root)))),1)]
def d31:Code:=wz .skip (λc=>c) Tryz.f31.body
def q31:Ak:=[]
def u31:As:=[(.root,0),((.l (.r (.l (.r (.r (.r .root)))))),1)]
def d32:Code:=wz .skip (λc=>c) Tryz.f32.body
def q32:Ak:=[]
def u32:As:=[(.root,0),((.r (.r (.r .root))),1)]
def d33:Code:=wz .skip (λc=>c) Tryz.f33.body
def q33:Ak:=[]
structure J33 where
 a0:U→Nat→Nat→H→Prop
def WA(_c:CF)(a:KV)(_J:J33)(b:U)(c d:Nat)(f:H):Prop:=
 oV (Dh env .eql 23 b .Bn) λg=>
 Be g λh=>
 V h
 (a (.tuple [.Bn,(.bool false)]) f)
 (oK (Ag b f) λi j=>
 Ac 1 i λk=>
 Z k j λl=>
 oK (BO env 83 l (.str c d) true j) λm n=>
 ext 0 m λo=>
 ext 1 m λp=>
 Be p λq=>
 a (.tuple [o,(.bool q)]) n)
def z33:J33:=⟨λ_ _ _ _=>False⟩
def lW(c:CF)(k:KV)(m:Nat):J33:=vP z33 (λ_ J=>⟨WA c k J⟩) m
def f33(J:J33):Jump:=λa f b=>match a with
 |0=>Bv (f 1) λc d=>J.a0 (f 0) c d b
 |_=>False
def u33:As:=[(.root,0)]
def d34:Code:=wz .skip (λc=>c) Tryz.f34.body
def q34:Ak:=[]
structure J34 where
 a0:H→Prop
def W5(_c:CF)(a:KV)(_J:J34)(b:H):Prop:=
 Hp.Bu b (.map [] 0) λc d=>
 oK (AF env (env.ty 145) [(0,(.map c))] d) λf g=>
 EX f λg5=>
 Fa (vU 1 (len g5))<|
 Hp.Bu g (rowOf 145 g5) λh i=>
 a (.ptr h 0) i
def z34:J34:=⟨λ_=>False⟩
def sx(c:CF)(k:KV)(m:Nat):J34:=vP z34 (λ_ J=>⟨W5 c k J⟩) m
def f34(J:J34):Jump:=λL _ h=>match L with
 |0=>J.a0 h
 |_=>False
def u34:As:=[(.root,0)]
def d35:Code:=wz .skip (λc=>c) Tryz.f35.body
def q35:Ak:=[]
structure sf where
 a0:Int→H→Prop
def VV(a:CF)(b:KV)(_J:sf)(c:Int)(d:H):Prop:=
 oK (AF env (env.ty 152) [] d) λf g=>
 EX f λg3=>
 Fa (vU 1 (len g3))<|
 Hp.Bu g (rowOf 152 g3) λh i=>
 oK (Ag (.ptr h 0) i) λj k=>
 Ac 0 j λl=>
 oK (AB env .max [3,3] [(.int .i64 c),(.int .i64 (vJ 0))] k) λm n=>
 Ar .i64 m λo=>
 a (.func 60) [l,(.int .i64 o)] n λ_ p=>
 b (.ptr h 0) p
def z35:sf:=⟨λ_ _=>False⟩
def qy(c:CF)(k:KV)(m:Nat):sf:=vP z35 (λ_ J=>⟨VV c k J⟩) m
def f35(J:sf):Jump:=λa f b=>match a with
 |0=>Ar .i64 (f 0) λc=>J.a0 c b
 |_=>False
def u35:As:=[(.root,0)]
def d36:Code:=wz .skip (λc=>c) Tryz.f36.body
def q36:Ak:=[(1,[0,1,2,3,4,5,6,9,7,8,10]),(5,[0,1,2,3,4,5,6,7,8,9,10,11,12])]
structure WK where
 a0:U→Nat→Nat→H→Prop
 a1:U→U→Int→Int→H→Prop
 a2:U→U→H→Prop
def Ww(c:CF)(_k:KV)(J:WK)(a:U)(b d:Nat)(f:H):Prop:=
 oK (Ag a f) λg h=>
 Ac 0 g λi=>
 Z i h λj=>
 c (.func 33) [j,(.str b d)] h λk l=>
 ext 0 k λm=>
 ext 1 k λn=>
 Be n λ_=>
 oK (Ag a l) λo p=>
 Ac 4 o λq=>
 Ac 0 q λr=>
 Z r p λs=>
 Hp.Bu p tF λt u=>
 Z r u λv=>
 BE v s<|
 c (.func 61) [m] u λw x=>
 Bv w λy c21=>
 Z r x λf=>
 BE f s<|
 HZ (CP env) c s [(.str b d),(.str y c21)] x λg i=>
 CV 3 (.ptr t 0) g i λh=>
 Ac 2 (.ptr t 0) λj=>
 Z j h λk=>
 oK (AF env (env.ty 114) [(0,(.str b d)),(1,k)] h) λn l=>
 oK (AF env (env.ty 159) [(0,a),(1,(.str b d)),(2,n)] l) λo q=>
 EX o λp=>
 Fa (vU 1 (len p))<|
 Hp.Bu q (rowOf 159 p) λv m=>
 oK (Ag a m) λu w=>
 Ac 13 u λr=>
 Z r w λf=>
 oK (BO env 100 f (.str b d) false w) λs x=>
 Ar .i64 s λy=>
 fI (wrap .i64 (AW y (vJ 1))) λg=>
 oK (Cg env 100 f (.str b d) (.int .i64 g) x) λ_ i=>
 oK (Ag a i) λj h=>
 Ac 15 j λk=>
 Z k h λl=>
 Ar .i64 l λn=>
 fI (wrap .i64 (AW n (vJ 1))) λo=>
 oK (Ag a h) λp q=>
 Ac 15 p λm=>
 BC m (.int .i64 o) q λu=>
 oK (Ag a u) λr w=>
 Ac 8 r λs=>
 Ac 1 s λy=>
 Z y w λb=>
 Ac 1 (.ptr t 0) λd=>
 Z d w λf=>
 oK (AB env .append [31,31] [b,f] w) λg x=>
 oK (Ag a x) λi j=>
 Ac 8 i λk=>
 Ac 1 k λl=>
 BC l g j λn=>
 Ac 0 (.ptr t 0) λh=>
 Z h n λp=>
 c (.func 62) [(.ptr v 0),p] n λ_ m=>
 J.a2 a (.ptr v 0) m
def VZ(a:CF)(b:KV)(J:WK)(c d:U)(f g:Int)(h:H):Prop:=
 V (Ba g f)
 (Bo g λi=>
 A7 1 i d λj=>
 Z j h λk=>
 oK (Ag k h) λl m=>
 Ac 3 l λn=>
 Z n m λo=>
 Be o λp=>
 AM (λq=>gate true (Bm p)
 (oK (Ag c m) λr s=>
 Ac 8 r λt=>
 Ac 4 t λu=>
 Z u s λv=>
 Be v λw=>
 q (Bm w) s)
 (q false m)) λx y=>
 V x
 (oK (Ag k y) λi j=>
 Ac 0 i λl=>
 A3 3 l j λn=>
 a (.func 63) [c,(.int .i64 (vJ 13)),n] j λ_ o=>
 fI (wrap .i64 (AW g (vJ 1))) λp=>
 J.a1 c d f p o)
 (fI (wrap .i64 (AW g (vJ 1))) λr=>
 J.a1 c d f r y))
 (oK (Ag c h) λt u=>
 Ac 15 t λv=>
 Z v u λs=>
 Ar .i64 s λw=>
 fI (wrap .i64 (EU w (vJ 1))) λm=>
 oK (Ag c u) λq x=>
 Ac 15 q λk=>
 BC k (.int .i64 m) x λi=>
 b (.tuple []) i)
def WD(_c:CF)(_k:KV)(J:WK)(a b:U)(h:H):Prop:=
 oK (Ag b h) λc d=>
 Ac 5 c λf=>
 Z f d λg=>
 Bz g λi=>
 J.a1 a g (vJ i) (vJ 0) d
def z36:WK:=⟨λ_ _ _ _=>False,λ_ _ _ _ _=>False,λ_ _ _=>False⟩
def Xv(c:CF)(k:KV)(m:Nat):WK:=vP z36 (λ_ J=>⟨Ww c k J,VZ c k J,WD c k J⟩) m
def f36(J:WK):Jump:=λa f b=>match a with
 |0=>Bv (f 1) λc d=>J.a0 (f 0) c d b
 |1=>Ar .i64 (f 70) λg=>Ar .i64 (f 71) λh=>J.a1 (f 0) (f 69) g h b
 |2=>J.a2 (f 0) (f 7) b
 |_=>False
def u36:As:=[(.root,0),((.l (.r (.l (.r (.r (.r (.r (.r (.r (.r .root)))))))))),1),((.r (.r (.r (.r (.r (.r (.r .root))))))),2)]
def d38:Code:=wz .skip (λc=>c) Tryz.f38.body
def q38:Ak:=[]
structure J38 where
 a0:U→H→Prop
def XN(_c:CF)(a:KV)(_J:J38)(b:U)(c:H):Prop:=
 one b<|
 Hp.Bu c (rowOf 100 [b]) λd f=>
 a (.func (.func 66) [] [(.ptr d 0)]) f
def z38:J38:=⟨λ_ _=>False⟩
def rB(c:CF)(k:KV)(m:Nat):J38:=vP z38 (λ_ J=>⟨XN c k J⟩) m
def f38(J:J38):Jump:=λL f h=>match L with
 |0=>J.a0 (f 0) h
 |_=>False
def u38:As:=[(.root,0)]
def d39:Code:=wz .skip (λc=>c) Tryz.f39.body
def q39:Ak:=[(3,[0,1,2,3,4,5,6,7,8,9]),(6,[0,1,2,3,4,5,6,7,8,9]),(7,[0,1,2,3,4,5,6,7,8,9,10,11,12]),(13,[0,1,2,3,4,5,6])]
structure Ra where
 a0:Nat→Nat→Nat→Nat→H→Prop
 a1:Nat→Nat→U→U→Int→H→Prop
 a2:Nat→Nat→U→U→U→H→Prop
 a3:U→U→H→Prop
def Wy(a:CF)(_k:KV)(J:Ra)(b c:Nat)(d f:Nat)(g:H):Prop:=
 a (.func 67) [(.str d f)] g λh i=>
 oK (AF env (env.ty 170) [(0,(.str b c)),(1,h),(5,(.int .i64 (yx 0)))] i) λj k=>
 EX j λg5=>
 Fa (vU 1 (len g5))<|
 Hp.Bu k (rowOf 170 g5) λl m=>
 J.a1 d f .Af (.ptr l 0) (vJ 0) m
def WJ(a:CF)(_k:KV)(J:Ra)(b c:Nat)(d f:U)(g:Int)(h:H):Prop:=
 oK (Ag f h) λi j=>
 Ac 2 i λk=>
 Z k j λl=>
 Ar .i64 l λm=>
 oK (Ag f j) λn o=>
 Ac 1 n λp=>
 Z p o λq=>
 Bz q λr=>
 V (Ba m (vJ r))
 (a (.func 68) [f] o λs t=>
 Hp.Bu t MQ λu v=>
 CV 4 (.ptr u 0) s v λw=>
 Ac 1 (.ptr u 0) λx=>
 BC x (.int .i64 g) w λy=>
 Ac 2 (.ptr u 0) λh=>
 BC h (.int .i64 (vJ b)) y λi=>
 oK (Ag f i) λk l=>
 Ac 2 k λj=>
 Z j l λn=>
 Ar .i64 n λp=>
 oK (Ag f l) λq m=>
 Ac 1 q λr=>
 Z r m λa=>
 Bz a λt=>
 V (Ba p (vJ t))
 (oK (Ag f m) λs v=>
 Ac 1 s λg=>
 Z g v λw=>
 oK (Ag f v) λx h=>
 Ac 2 x λy=>
 Z y h λi=>
 Ar .i64 i λk=>
 Bo k λj=>
 A7 3 j w λn=>
 Ac 2 n λl=>
 Z l h λq=>
 Ar .i64 q λr=>
 Ac 2 (.ptr u 0) λa=>
 BC a (.int .i64 r) h λp=>
 J.a2 b c d f (.ptr u 0) p)
 (J.a2 b c d f (.ptr u 0) m))
 (Bz d λt=>
 V (Ba (vJ 0) (vJ t))
 (Bz d λs=>
 fI (wrap .i64 (EU (vJ s) (vJ 1))) λg=>
 Bo g λv=>
 A7 4 v d λx=>
 Ac 2 x λy=>
 BC y (.int .i64 (vJ b)) o λi=>
 J.a3 d f i)
 (J.a3 d f o))
def XZ(_c:CF)(_k:KV)(J:Ra)(a b:Nat)(c d f:U)(g:H):Prop:=
 oK (Ag d g) λh i=>
 Ac 2 h λj=>
 Z j i λk=>
 Ar .i64 k λl=>
 fI (wrap .i64 (AW l (vJ 1))) λm=>
 oK (Ag d i) λn o=>
 Ac 2 n λp=>
 BC p (.int .i64 m) o λq=>
 Ac 2 f λr=>
 Z r q λs=>
 Ar .i64 s λt=>
 A3 4 f q λu=>
 oK (AE env 108 (λe v=>Ap 1 [(0,u)] q e v)) λw x=>
 oK (AB env .append [108,108] [c,w] x) λy g=>
 J.a1 a b y d t g
def Yb(_c:CF)(a:KV)(_J:Ra)(b c:U)(d:H):Prop:=
 oK (Ag c d) λf g=>
 Ac 3 f λh=>
 Z h g λi=>
 a (.tuple [b,i]) g
def z39:Ra:=⟨λ_ _ _ _ _=>False,λ_ _ _ _ _ _=>False,λ_ _ _ _ _ _=>False,λ_ _ _=>False⟩
def NQ(c:CF)(k:KV)(m:Nat):Ra:=vP z39 (λ_ J=>⟨Wy c k J,WJ c k J,XZ c k J,Yb c k J⟩) m
def f39(J:Ra):Jump:=λa f b=>match a with
 |0=>Bv (f 0) λc d=>Bv (f 1) λg h=>J.a0 c d g h b
 |1=>Bv (f 1) λg h=>Ar .i64 (f 7) λi=>J.a1 g h (f 4) (f 6) i b
 |2=>Bv (f 1) λg h=>J.a2 g h (f 4) (f 6) (f 8) b
 |3=>J.a3 (f 4) (f 6) b
 |_=>False
def pB:As:=[(.root,0),((.l (.l (.r (.r (.r .root))))),1),((.r (.r (.l (.r (.l (.l (.l (.r (.r (.r .root)))))))))),2),((.r (.r (.r (.r (.r .root))))),3)]
def d40:Code:=wz .skip (λc=>c) Tryz.f40.body
def q40:Ak:=[]
structure qk where
 a0:U→H→Prop
def VI(_c:CF)(a:KV)(_J:qk)(b:U)(c:H):Prop:=
 one b<|
 Hp.Bu c (rowOf 30 [b]) λd f=>
 a (.func (.func 69) [] [(.ptr d 0)]) f
def z40:qk:=⟨λ_ _=>False⟩
def r40(c:CF)(k:KV)(m:Nat):qk:=vP z40 (λ_ J=>⟨VI c k J⟩) m
def f40(J:qk):Jump:=λL f h=>match L with
 |0=>J.a0 (f 0) h
 |_=>False
def u40:As:=[(.root,0)]
def d41:Code:=wz .skip (λc=>c) Tryz.f41.body
def q41:Ak:=[]
def u41:As:=[(.root,0)]
def d42:Code:=wz .skip (λc=>c) Tryz.f42.body
def q42:Ak:=[(3,[0,1,2,3,4,5,6,7,8,9,10,11,12,13,14])]
structure de where
 a0:U→H→Prop
 a1:U→H→Prop
def SC(_c:CF)(_k:KV)(J:de)(a:U)(b:H):Prop:=
 J.a1 a b
def O6(a:CF)(b:KV)(J:de)(c:U)(d:H):Prop:=
 oK (Ag c d) λf g=>
 Ac 2 f λh=>
 Z h g λi=>
 Bz i λj=>
 AM (λk6=>gate true (Ba (vJ 0) (vJ j))
 (oK (Ag c g) λk l=>
 Ac 0 k λm=>
 Z m l λn=>
 oK (Ag n l) λo p=>
 Ac 7 o λq=>
 Z q p λr=>
 Be r λs=>
 k6 (Bm s) p)
 (k6 false g)) λt u=>
 V t
 (a (.func 70) [c,(.int .i64 (vJ 0))] u λv w=>
 Hp.Bu w dm λx y=>
 CV 9 (.ptr x 0) v y λd=>
 oK (Ag c d) λf h=>
 Ac 2 f λi=>
 Z i h λj=>
 oK (Ag c h) λk m=>
 Ac 2 k λl=>
 Z l m λn=>
 Bz n λo=>
 fI (wrap .i64 (EU (vJ o) (vJ 1))) λq=>
 oK (slice3 env m 121 j none (some (Bf (.int .i64 q))) none) λr p=>
 oK (Ag c p) λs g=>
 Ac 2 s λt=>
 BC t r g λw=>
 A3 9 (.ptr x 0) w λv=>
 a (.func 71) [c,v] w λ_ y=>
 J.a1 c y)
 (oK (Ag c u) λd f=>
 Ac 3 d λi=>
 Z i f λh=>
 b h f)
def z42:de:=⟨λ_ _=>False,λ_ _=>False⟩
def aO(c:CF)(k:KV)(m:Nat):de:=vP z42 (λ_ J=>⟨SC c k J,O6 c k J⟩) m
def f42(J:de):Jump:=λL f h=>match L with
 |0=>J.a0 (f 0) h
 |1=>J.a1 (f 0) h
 |_=>False
def u42:As:=[(.root,0),((.l (.l (.r .root))),1)]
def d43:Code:=wz .skip (λc=>c) Tryz.f43.body
def q43:Ak:=[]
structure tq where
 a0:U→Int→H→Prop
def Vq(_c:CF)(a:KV)(_J:tq)(b:U)(c:Int)(d:H):Prop:=
 AM (λk1=>gate false (Ba c (vJ 0))
 (Bz b λf=>
 k1 (CJ (vJ f) c) d)
 (k1 true d)) λg h=>
 V g
 (a (.int .u8 (vJ 0)) h)
 (Bo c λi=>
 A7 3 i b λj=>
 Ac 0 j λk=>
 Z k h λl=>
 Ar .u8 l λm=>
 a (.int .u8 m) h)
def z43:tq:=⟨λ_ _ _=>False⟩
def rP(c:CF)(k:KV)(m:Nat):tq:=vP z43 (λ_ J=>⟨Vq c k J⟩) m
def f43(J:tq):Jump:=λa f b=>match a with
 |0=>Ar .i64 (f 1) λc=>J.a0 (f 0) c b
 |_=>False
def u43:As:=[(.root,0)]
def d44:Code:=wz .skip (λc=>c) Tryz.f44.body
def q44:Ak:=[]
structure qH where
 a0:U→Int→H→Prop
def V9(a:CF)(b:KV)(_J:qH)(c:U)(d:Int)(f:H):Prop:=
 a (.func 43) [c,(.int .i64 d)] f λg h=>
 Ar .u8 g λi=>
 AM (λk4=>gate false (AN i (vJ 34))
 (k4 (AN i (vJ 39)) h)
 (k4 true h)) λj k=>
 V j
 (b (.int .i64 (vJ 0)) k)
 (AM (λk7=>gate true (AN i (vJ 117))
 (fI (wrap .i64 (AW d (vJ 1))) λl=>
 a (.func 43) [c,(.int .i64 l)] k λm n=>
 Ar .u8 m λo=>
 k7 (AN o (vJ 56)) n)
 (k7 false k)) λp q=>
 AM (λOL=>gate true p
 (fI (wrap .i64 (AW d (vJ 2))) λr=>
 a (.func 43) [c,(.int .i64 r)] q λs t=>
 Ar .u8 s λu=>
 OL (AN u (vJ 34)) t)
 (OL false q)) λv w=>
 V v
 (b (.int .i64 (vJ 2)) w)
 (AM (λcZ=>gate false (AN i (vJ 76))
 (cZ (AN i (vJ 117)) w)
 (cZ true w)) λx y=>
 AM (λdD=>gate false x
 (dD (AN i (vJ 85)) y)
 (dD true y)) λf g=>
 AM (λk27=>gate true f
 (fI (wrap .i64 (AW d (vJ 1))) λh=>
 a (.func 43) [c,(.int .i64 h)] g λj l=>
 Ar .u8 j λm=>
 AM (λn=>gate false (AN m (vJ 34))
 (fI (wrap .i64 (AW d (vJ 1))) λo=>
 a (.func 43) [c,(.int .i64 o)] l λk p=>
 Ar .u8 k λr=>
 n (AN r (vJ 39)) p)
 (n true l)) λs t=>
 k27 s t)
 (k27 false g)) λu q=>
 V u
 (b (.int .i64 (vJ 1)) q)
 (b (.int .i64 (yx 0)) q)))
def z44:qH:=⟨λ_ _ _=>False⟩
def oN(c:CF)(k:KV)(m:Nat):qH:=vP z44 (λ_ J=>⟨V9 c k J⟩) m
def f44(J:qH):Jump:=λa f b=>match a with
 |0=>Ar .i64 (f 1) λc=>J.a0 (f 0) c b
 |_=>False
def u44:As:=[(.root,0)]
def d46:Code:=wz .skip (λc=>c) Tryz.f46.body
def q46:Ak:=[]
structure qd where
 a0:Int→H→Prop
def XC(_c:CF)(a:KV)(_J:qd)(b:Int)(c:H):Prop:=
 AM (λk1=>gate true (CJ (vJ 97) b)
 (k1 (CJ b (vJ 122)) c)
 (k1 false c)) λd f=>
 AM (λk4=>gate false d
 (AM (λk7=>gate true (CJ (vJ 65) b)
 (k7 (CJ b (vJ 90)) f)
 (k7 false f)) λg h=>
 k4 g h)
 (k4 true f)) λi j=>
 AM (λOB=>gate false i
 (OB (AN b (vJ 95)) j)
 (OB true j)) λk l=>
 a (.bool k) l
def z46:qd:=⟨λ_ _=>False⟩
def mH(c:CF)(k:KV)(m:Nat):qd:=vP z46 (λ_ J=>⟨XC c k J⟩) m
def f46(J:qd):Jump:=λa f b=>match a with
 |0=>Ar .u8 (f 0) λc=>J.a0 c b
 |_=>False
def u46:As:=[(.root,0)]
def d47:Code:=wz .skip (λc=>c) Tryz.f47.body
def q47:Ak:=[]
structure ry where
 a0:Int→H→Prop
def WV(_c:CF)(a:KV)(_J:ry)(b:Int)(c:H):Prop:=
 AM (λk1=>gate true (CJ (vJ 48) b)
 (k1 (CJ b (vJ 57)) c)
 (k1 false c)) λd f=>
 a (.bool d) f
def z47:ry:=⟨λ_ _=>False⟩
def r47(c:CF)(k:KV)(m:Nat):ry:=vP z47 (λ_ J=>⟨WV c k J⟩) m
def f47(J:ry):Jump:=λa f b=>match a with
 |0=>Ar .u8 (f 0) λc=>J.a0 c b
 |_=>False
def u47:As:=[(.root,0)]
def d50:Code:=wz .skip (λc=>c) Tryz.f50.body
def q50:Ak:=[]
structure eN where
 a0:Int→H→Prop
 a1:Int→Int→H→Prop
def V3(_c:CF)(_k:KV)(J:eN)(a:Int)(b:H):Prop:=
 J.a1 a (vJ 0) b
def Vx(_c:CF)(a:KV)(J:eN)(b c:Int)(d:H):Prop:=
 V (Ba c (vJ 9))
 (Bo c λf=>
 FG 9 834587979106535026493 f λg=>
 V (AN (vJ g) b)
 (Bo c λh=>
 FG 9 2333331710704686619683 h λi=>
 a (.tuple [(.int .u8 (vJ i)),(.bool true)]) d)
 (fI (wrap .i64 (AW c (vJ 1))) λj=>
 J.a1 b j d))
 (a (.tuple [(.int .u8 (vJ 0)),(.bool false)]) d)
def z50:eN:=⟨λ_ _=>False,λ_ _ _=>False⟩
def ab(c:CF)(k:KV)(m:Nat):eN:=vP z50 (λ_ J=>⟨V3 c k J,Vx c k J⟩) m
def f50(J:eN):Jump:=λa f b=>match a with
 |0=>Ar .u8 (f 0) λc=>J.a0 c b
 |1=>Ar .u8 (f 0) λc=>Ar .i64 (f 4) λd=>J.a1 c d b
 |_=>False
def u50:As:=[(.root,0),((.l (.r (.l (.r .root)))),1)]
def d51:Code:=wz .skip (λc=>c) Tryz.f51.body
def q51:Ak:=[]
def u51:As:=[(.root,0)]
def d52:Code:=wz .skip (λc=>c) Tryz.f52.body
def q52:Ak:=[]
def u52:As:=[(.root,0),((.l (.r (.l (.r (.r .root))))),1)]
def d53:Code:=wz .skip (λc=>c) Tryz.f53.body
def q53:Ak:=[]
structure eW where
 a0:U→U→H→Prop
 a1:U→U→Int→Int→H→Prop
def Vr(_c:CF)(_k:KV)(J:eW)(a b:U)(c:H):Prop:=
 Bz a λd=>
 J.a1 a b (vJ d) (vJ 0) c
def VH(a:CF)(b:KV)(J:eW)(c d:U)(f g:Int)(h:H):Prop:=
 V (Ba g f)
 (Bo g λi=>
 A7 1 i c λj=>
 Z j h λk=>
 Bv k λl m=>
 HZ (CP env) a d [(.str l m)] h λn o=>
 Be n λp=>
 V p
 (b (.int .i64 g) o)
 (fI (wrap .i64 (AW g (vJ 1))) λq=>
 J.a1 c d f q o))
 (b (.int .i64 (yx 0)) h)
def z53:eW:=⟨λ_ _ _=>False,λ_ _ _ _ _=>False⟩
def cf(c:CF)(k:KV)(m:Nat):eW:=vP z53 (λ_ J=>⟨Vr c k J,VH c k J⟩) m
def f53(J:eW):Jump:=λa f b=>match a with
 |0=>J.a0 (f 0) (f 1) b
 |1=>Ar .i64 (f 7) λc=>Ar .i64 (f 8) λd=>J.a1 (f 0) (f 1) c d b
 |_=>False
def u53:As:=[(.root,0),((.l (.r (.l (.r .root)))),1)]
def d54:Code:=wz .skip (λc=>c) Tryz.f54.body
def q54:Ak:=[]
structure qB where
 a0:U→H→Prop
def XE(_c:CF)(a:KV)(_J:qB)(b:U)(c:H):Prop:=
 oV (Dh env .eql 87 b .Bn) λd=>
 Be d λf=>
 V f
 (oK (AF env (env.ty 189) [] c) λg h=>
 EX g λg5=>
 Fa (vU 1 (len g5))<|
 Hp.Bu h (rowOf 189 g5) λi j=>
 a (.ptr i 0) j)
 (a b c)
def z54:qB:=⟨λ_ _=>False⟩
def r54(c:CF)(k:KV)(m:Nat):qB:=vP z54 (λ_ J=>⟨XE c k J⟩) m
def f54(J:qB):Jump:=λL f h=>match L with
 |0=>J.a0 (f 0) h
 |_=>False
def u54:As:=[(.root,0)]
def d55:Code:=wz .skip (λc=>c) Tryz.f55.body
def q55:Ak:=[(4,[0,1,2,4,5,6,3,7,8,9])]
structure J55 where
 a0:Nat→Nat→H→Prop
def X0(a:CF)(b:KV)(_J:J55)(c d:Nat)(f:H):Prop:=
 V (CJ (vJ c) (vJ 256))
 (a (.func 75) [(.str c d)] f λg h=>
 b g h)
 (gY .i64 (vJ c) (vJ 2) λi=>
 Bo i λj=>
 Lk c d 0 j λk l=>
 Bo i λm=>
 Lk c d m c λl8 c9=>
 a (.func 55) [(.str k l)] f λn o=>
 a (.func 55) [(.str l8 c9)] o λp q=>
 a (.func 76) [n,p] q λr s=>
 b r s)
def z55:J55:=⟨λ_ _ _=>False⟩
def r55(c:CF)(k:KV)(m:Nat):J55:=vP z55 (λ_ J=>⟨X0 c k J⟩) m
def f55(J:J55):Jump:=λa f b=>match a with
 |0=>Bv (f 0) λc d=>J.a0 c d b
 |_=>False
def u55:As:=[(.root,0)]
def d56:Code:=wz .skip (λc=>c) Tryz.f56.body
def q56:Ak:=[]
structure fb where
 a0:U→Nat→Nat→H→Prop
 a1:U→Nat→Nat→H→Prop
def Vp(_c:CF)(_k:KV)(J:fb)(a:U)(b c:Nat)(d:H):Prop:=
 oK (Ag a d) λf g=>
 Ac 2 f λh=>
 Z h g λi=>
 oK (BO env 84 i (.str b c) false g) λj k=>
 oV (Dh env .eql 191 j .Bn) λl=>
 Be l λm=>
 V m
 (oK (Ag a k) λn o=>
 Ac 2 n λp=>
 Z p o λq=>
 oK (AF env (env.ty 150) [] o) λr s=>
 EX r λZL=>
 Fa (vU 1 (len ZL))<|
 Hp.Bu s (rowOf 150 ZL) λt u=>
 oK (Cg env 84 q (.str b c) (.ptr t 0) u) λ_ v=>
 J.a1 a b c v)
 (J.a1 a b c k)
def WH(a:CF)(b:KV)(_J:fb)(c:U)(d f:Nat)(g:H):Prop:=
 oK (Ag c g) λh i=>
 Ac 2 h λj=>
 Z j i λk=>
 oK (BO env 84 k (.str d f) false i) λl m=>
 a (.func 77) [l,(.int .i64 (vJ 1))] m λn o=>
 Ar .i64 n λ_=>
 b (.tuple []) o
def z56:fb:=⟨λ_ _ _ _=>False,λ_ _ _ _=>False⟩
def dF(c:CF)(k:KV)(m:Nat):fb:=vP z56 (λ_ J=>⟨Vp c k J,WH c k J⟩) m
def f56(J:fb):Jump:=λa f b=>match a with
 |0=>Bv (f 1) λc d=>J.a0 (f 0) c d b
 |1=>Bv (f 1) λc d=>J.a1 (f 0) c d b
 |_=>False
def u56:As:=[(.root,0),((.r .root),1)]
def d57:Code:=wz .skip (λc=>c) Tryz.f57.body
def q57:Ak:=[]
def u57:As:=[(.root,0),((.l (.r (.l (.r (.r (.r .root)))))),1),((.r (.r (.l (.l (.r (.l (.r (.r (.r .root))))))))),2)]
def d58:Code:=wz .skip (λc=>c) Tryz.f58.body
def q58:Ak:=[]
def u58:As:=[(.root,0),((.l (.r (.l (.r .root)))),1)]
def d59:Code:=wz .skip (λc=>c) Tryz.f59.body
def q59:Ak:=[]
def u59:As:=[(.root,0),((.l (.r (.l .root))),1)]
def d60:Code:=wz .skip (λc=>c) Tryz.f60.body
def q60:Ak:=[]
structure J60 where
 a0:U→Int→H→Prop
def Wa(a:CF)(b:KV)(_J:J60)(c:U)(d:Int)(f:H):Prop:=
 oK (Ag c f) λg h=>
 Ac 0 g λi=>
 a (.func 78) [i,(.int .i64 d)] h λ_ j=>
 b (.tuple []) j
def z60:J60:=⟨λ_ _ _=>False⟩
def r60(c:CF)(k:KV)(m:Nat):J60:=vP z60 (λ_ J=>⟨Wa c k J⟩) m
def f60(J:J60):Jump:=λa f b=>match a with
 |0=>Ar .i64 (f 1) λc=>J.a0 (f 0) c b
 |_=>False
def u60:As:=[(.root,0)]
def d61:Code:=wz .skip (λc=>c) Tryz.f61.body
def q61:Ak:=[]
structure mn where
 a0:U→H→Prop
def Xw(a:CF)(b:KV)(_J:mn)(c:U)(d:H):Prop:=
 Hp.Bu d Is λf g=>
 a (.func 79) [c,(.func (.func 80) [] [(.ptr f 0)])] g λ_ h=>
 a (.func 82) [(.ptr f 0)] h λi j=>
 Bv i λk c8=>
 b (.str k c8) j
def z61:mn:=⟨λ_ _=>False⟩
def mO(c:CF)(k:KV)(m:Nat):mn:=vP z61 (λ_ J=>⟨Xw c k J⟩) m
def f61(J:mn):Jump:=λL f h=>match L with
 |0=>J.a0 (f 0) h
 |_=>False
def u61:As:=[(.root,0)]
def d62:Code:=wz .skip (λc=>c) Tryz.f62.body
def q62:Ak:=[(16,[0,1,2,3,4,5,6,7,8,9,10,11,12,13,14,15,16,17,18,19,20,21,22,23,24,25,26,27,28,29,30,31,32,33,34,35,36,37,38,39,40,41,42,43,44,45,46,47,48,49])]
structure St where
 a0:U→U→H→Prop
 a1:U→U→U→Int→H→Prop
 a2:U→U→U→Int→U→Int→H→Prop
 a3:U→U→U→Int→U→Int→H→Prop
def V0(_c:CF)(_k:KV)(J:St)(a b:U)(c:H):Prop:=
 oK (AF env (env.ty 207) [] c) λd f=>
 EX d λg3=>
 Fa (vU 1 (len g3))<|
 Hp.Bu f (rowOf 207 g3) λg h=>
 J.a1 a b (.ptr g 0) (vJ 0) h
def OQ(a:CF)(b:KV)(J:St)(c d f:U)(g:Int)(h:H):Prop:=
 Bz d λi=>
 AM (λk7=>gate true (Ba g (vJ i))
 (oK (Ag c h) λj k=>
 Ac 0 j λl=>
 Z l k λm=>
 oK (Ag m k) λn o=>
 Ac 8 n λp=>
 Ac 4 p λq=>
 Z q o λr=>
 Be r λs=>
 k7 (Bm s) o)
 (k7 false h)) λt u=>
 V t
 (Bo g λv=>
 A7 4 v d λw=>
 Ac 0 w λx=>
 Z x u λy=>
 a (.func 83) [f,y] u λi j=>
 Ar .i64 i λl=>
 V (Bm (AN l (vJ 0)))
 (Bo g λk=>
 A7 4 k d λm=>
 A3 4 m j λn=>
 a (.func 84) [c,(.int .i64 l),n] j λ_ p=>
 fI (wrap .i64 (AW g (vJ 1))) λq=>
 J.a1 c d f q p)
 (J.a2 c d f g .Af g j))
 (b (.tuple []) u)
def Tk(a:CF)(_k:KV)(J:St)(b c d:U)(f:Int)(g:U)(h:Int)(i:H):Prop:=
 Bz c λj=>
 AM (λk=>gate true (Ba f (vJ j))
 (Bo f λl=>
 A7 4 l c λm=>
 Ac 0 m λn=>
 Z n i λo=>
 a (.func 83) [d,o] i λp q=>
 Ar .i64 p λr=>
 k (AN r (vJ 0)) q)
 (k false i)) λs t=>
 V s
 (Bz g λu=>
 Bo f λv=>
 A7 4 v c λw=>
 Ac 0 w λx=>
 Z x t λy=>
 oK (AB env .append [30,30] [g,y] t) λj l=>
 AM (λm=>gate true (Ba h f)
 (Bz j λn=>
 m (Ba (vJ u) (vJ n)) l)
 (m false l)) λo p=>
 V o
 (A7 8 u j λq=>
 Ac 2 q λr=>
 BC r (.bool true) p λi=>
 J.a3 b c d f j h i)
 (J.a3 b c d f j h p))
 (a (.func 85) [b] t λk s=>
 Be k λv=>
 AM (λw=>gate true (Bm v)
 (Bz g λx=>
 w (Ba (vJ 0) (vJ x)) s)
 (w false s)) λy n=>
 V y
 (oK (Ag b n) λl m=>
 Ac 0 l λo=>
 Z o m λu=>
 oK (Ag b m) λq r=>
 Ac 0 q λi=>
 Z i r λh=>
 oK (Ag h r) λj p=>
 Ac 8 j λt=>
 Ac 0 t λk=>
 Z k p λv=>
 oK (Ag b p) λx s=>
 Ac 0 x λw=>
 Z w s λy=>
 oK (Ag b s) λl m=>
 Ac 0 l λq=>
 Z q m λr=>
 oK (Ag r m) λj t=>
 Ac 4 j λp=>
 Ac 1 p λx=>
 Z x t λs=>
 oK (Ag b t) λl q=>
 Ac 0 l λm=>
 Z m q λr=>
 oK (Ag r q) λj p=>
 Ac 6 j λx=>
 Z x p λt=>
 oK (Ag b p) λl m=>
 Ac 2 l λq=>
 A3 3 q m λr=>
 oK (Ag b m) λj x=>
 Ac 0 j λp=>
 Z p x λl=>
 oK (Ag l x) λq m=>
 Ac 7 q λj=>
 Z j m λp=>
 HZ (CP env) a s [t,g,r,p] m λl x=>
 Z o x λq=>
 BE q u<|
 Z i x λj=>
 BE j h<|
 Z k x λg=>
 BE g v<|
 Z w x λm=>
 BE m y<|
 a (.func 86) [y,l] x λp r=>
 Z o r λs=>
 BE s u<|
 Z i r λt=>
 BE t h<|
 Z k r λq=>
 BE q v<|
 oK (AB env .append [30,30] [v,p] r) λj g=>
 Z o g λw=>
 BE w u<|
 oK (Ag u g) λm a=>
 Ac 8 m λl=>
 Ac 0 l λx=>
 BC x j a λy=>
 J.a1 b c d f y)
 (J.a1 b c d f n))
def VE(_c:CF)(_k:KV)(J:St)(a b c:U)(d:Int)(f:U)(g:Int)(h:H):Prop:=
 fI (wrap .i64 (AW d (vJ 1))) λi=>
 J.a2 a b c i f g h
def z62:St:=⟨λ_ _ _=>False,λ_ _ _ _ _=>False,λ_ _ _ _ _ _ _=>False,λ_ _ _ _ _ _ _=>False⟩
def HN(c:CF)(k:KV)(m:Nat):St:=vP z62 (λ_ J=>⟨V0 c k J,OQ c k J,Tk c k J,VE c k J⟩) m
def f62(J:St):Jump:=λa f b=>match a with
 |0=>J.a0 (f 0) (f 1) b
 |1=>Ar .i64 (f 5) λc=>J.a1 (f 0) (f 1) (f 4) c b
 |2=>Ar .i64 (f 5) λc=>Ar .i64 (f 8) λd=>J.a2 (f 0) (f 1) (f 4) c (f 7) d b
 |3=>Ar .i64 (f 5) λc=>Ar .i64 (f 8) λd=>J.a3 (f 0) (f 1) (f 4) c (f 7) d b
 |_=>False
def oR:As:=[(.root,0),((.l (.r (.r .root))),1),((.l (.l (.r (.r (.r (.r (.l (.r (.l (.l (.r (.r .root)))))))))))),2),((.r (.r (.l (.l (.l (.r (.r (.r (.r (.l (.r (.l (.l (.r (.r .root))))))))))))))),3)]
def d63:Code:=wz .skip (λc=>c) Tryz.f63.body
def q63:Ak:=[(1,[0,1,2,3,4,5,6,7,8,9,10,11,12,13,14])]
structure sX where
 a0:U→Int→U→H→Prop
def Vt(_c:CF)(a:KV)(_J:sX)(b:U)(c:Int)(d:U)(f:H):Prop:=
 EX d λg=>
 Fa (vU 1 (len g))<|
 Hp.Bu f (rowOf 45 g) λh i=>
 oK (Ag b i) λj k=>
 Ac 8 j λl=>
 Ac 1 l λm=>
 Z m k λn=>
 A3 3 (.ptr h 0) k λo=>
 oK (AF env (env.ty 52) [(0,(.int .i64 c)),(1,o)] k) λp q=>
 oK (AE env 31 (λe r=>Ap 1 [(0,p)] q e r)) λs t=>
 Z m t λu=>
 BE u n<|
 oK (AB env .append [31,31] [n,s] t) λv w=>
 oK (Ag b w) λx y=>
 Ac 8 x λd=>
 Ac 1 d λf=>
 BC f v y λg=>
 a (.tuple []) g
def z63:sX:=⟨λ_ _ _ _=>False⟩
def r63(c:CF)(k:KV)(m:Nat):sX:=vP z63 (λ_ J=>⟨Vt c k J⟩) m
def f63(J:sX):Jump:=λa f b=>match a with
 |0=>Ar .i64 (f 1) λc=>J.a0 (f 0) c (f 2) b
 |_=>False
def u63:As:=[(.root,0)]
def d65:Code:=wz .skip (λc=>c) Tryz.f65.body
def q65:Ak:=[]
def u65:As:=[(.root,0)]
def d67:Code:=wz .skip (λc=>c) Tryz.f67.body
def q67:Ak:=[]
structure nZ where
 a0:Nat→Nat→H→Prop
def V6(a:CF)(b:KV)(_J:nZ)(c d:Nat)(f:H):Prop:=
 a (.func 90) [(.str c d)] f λg h=>
 AM (λk3=>gate true (Bm (CL c d 0 0))
 (Bz g λi=>
 AM (λk7=>gate false (AN (vJ i) (vJ 0))
 (Bz g λj=>
 fI (wrap .i64 (EU (vJ j) (vJ 1))) λk=>
 Bo k λl=>
 A7 3 l g λm=>
 Ac 0 m λn=>
 Z n h λo=>
 Ar .u8 o λp=>
 k7 (Bm (AN p (vJ 10))) h)
 (k7 true h)) λq r=>
 k3 q r)
 (k3 false h)) λs t=>
 V s
 (oK (AF env (env.ty 172) [(0,(.int .u8 (vJ 10))),(1,(.int .i64 (vJ c))),(2,(.int .i64 (vJ c)))] t) λu v=>
 oK (AE env 167 (λe w=>Ap 1 [(0,u)] v e w)) λx y=>
 oK (AB env .append [167,167] [g,x] y) λa f=>
 b a f)
 (b g t)
def z67:nZ:=⟨λ_ _ _=>False⟩
def qU(c:CF)(k:KV)(m:Nat):nZ:=vP z67 (λ_ J=>⟨V6 c k J⟩) m
def f67(J:nZ):Jump:=λa f b=>match a with
 |0=>Bv (f 0) λc d=>J.a0 c d b
 |_=>False
def u67:As:=[(.root,0)]
def d68:Code:=wz .skip (λc=>c) Tryz.f68.body
def q68:Ak:=[]
structure eJ where
 a0:U→H→Prop
 a1:U→U→H→Prop
def VN(_c:CF)(_k:KV)(J:eJ)(a:U)(b:H):Prop:=
 Hp.Bu b MQ λc d=>
 oK (Ag a d) λf g=>
 Ac 4 f λh=>
 BC h (.bool false) g λi=>
 J.a1 a (.ptr c 0) i
def Wc(a:CF)(b:KV)(J:eJ)(c d:U)(f:H):Prop:=
 a (.func 91) [c] f λg h=>
 ext 0 g λi=>
 ext 1 g λj=>
 Be j λk=>
 ext 2 g λl=>
 Be l λm=>
 Hp.Bu h Kw λn o=>
 CV 8 (.ptr n 0) i o λp=>
 Ac 3 d λq=>
 BC q (.bool k) p λr=>
 V (Bm m)
 (A3 4 d r λs=>
 CV 4 d s r λt=>
 A3 4 d t λu=>
 b u t)
 (Ac 0 d λv=>
 Z v r λw=>
 A3 8 (.ptr n 0) r λx=>
 oK (AE env 30 (λe y=>Ap 1 [(0,x)] r e y)) λa f=>
 oK (AB env .append [30,30] [w,a] f) λj g=>
 Ac 0 d λl=>
 BC l j g λh=>
 J.a1 c d h)
def z68:eJ:=⟨λ_ _=>False,λ_ _ _=>False⟩
def ax(c:CF)(k:KV)(m:Nat):eJ:=vP z68 (λ_ J=>⟨VN c k J,Wc c k J⟩) m
def f68(J:eJ):Jump:=λL f h=>match L with
 |0=>J.a0 (f 0) h
 |1=>J.a1 (f 0) (f 2) h
 |_=>False
def u68:As:=[(.root,0),((.l (.r (.r .root))),1)]
def d69:Code:=wz .skip (λc=>c) Tryz.f69.body
def q69:Ak:=[]
structure dh where
 a0:U→U→H→Prop
 a1:U→U→Int→H→Prop
def Yf(_c:CF)(_k:KV)(J:dh)(a b:U)(c:H):Prop:=
 Z b c λd=>
 Bz d λf=>
 fI (wrap .i64 (EU (vJ f) (vJ 1))) λg=>
 J.a1 a b g c
def SJ(a:CF)(b:KV)(J:dh)(c d:U)(f:Int)(g:H):Prop:=
 V (CJ (vJ 0) f)
 (Z d g λh=>
 Bo f λi=>
 A7 8 i h λj=>
 A3 8 j g λk=>
 HZ (CP env) a c [(.int .i64 f),k] g λl m=>
 Be l λn=>
 V (Bm n)
 (b (.tuple []) m)
 (fI (wrap .i64 (EU f (vJ 1))) λo=>
 J.a1 c d o m))
 (b (.tuple []) g)
def z69:dh:=⟨λ_ _ _=>False,λ_ _ _ _=>False⟩
def YM(c:CF)(k:KV)(m:Nat):dh:=vP z69 (λ_ J=>⟨Yf c k J,SJ c k J⟩) m
def f69(J:dh):Jump:=λa f b=>match a with
 |0=>J.a0 (f 0) (f 1) b
 |1=>Ar .i64 (f 3) λc=>J.a1 (f 0) (f 1) c b
 |_=>False
def u69:As:=[(.root,0),((.l (.r .root)),1)]
def d70:Code:=wz .skip (λc=>c) Tryz.f70.body
def q70:Ak:=[(1,[0,1,2,3,4,5,6,7,8,9,10,11,12,13,14])]
structure J70 where
 a0:U→Int→H→Prop
def Vn(_c:CF)(a:KV)(_J:J70)(b:U)(c:Int)(d:H):Prop:=
 Hp.Bu d dm λf g=>
 oK (Ag b g) λh i=>
 Ac 2 h λj=>
 Z j i λk=>
 oK (Ag b i) λl m=>
 Ac 2 l λn=>
 Z n m λo=>
 Bz o λp=>
 fI (wrap .i64 (EU (vJ p) (vJ 1))) λq=>
 fI (wrap .i64 (EU q c)) λr=>
 Bo r λs=>
 A7 9 s k λt=>
 A3 9 t m λu=>
 CV 9 (.ptr f 0) u m λv=>
 A3 9 (.ptr f 0) v λw=>
 a w v
def z70:J70:=⟨λ_ _ _=>False⟩
def pO(c:CF)(k:KV)(m:Nat):J70:=vP z70 (λ_ J=>⟨Vn c k J⟩) m
def f70(J:J70):Jump:=λa f b=>match a with
 |0=>Ar .i64 (f 1) λc=>J.a0 (f 0) c b
 |_=>False
def u70:As:=[(.root,0)]
def d71:Code:=wz .skip (λc=>c) Tryz.f71.body
def q71:Ak:=[(7,[0,1,2,3,4,5,6,7,8,9,10,11,12]),(8,[0,1,2,3,4,5,6,7,8,9,10,11]),(9,[0,1,2,3,4,5,6,7,8,9,10,11])]
structure dQ where
 a0:U→U→H→Prop
 a1:U→U→H→Prop
def WO(a:CF)(b:KV)(J:dQ)(c d:U)(f:H):Prop:=
 EX d λg=>
 Fa (vU 1 (len g))<|
 Hp.Bu f (rowOf 131 g) λh i=>
 Ac 0 (.ptr h 0) λj=>
 Ac 0 j λk=>
 Z k i λl=>
 Ar .i64 l λm=>
 AM (λk8=>gate false (Bm (AN m (vJ 1)))
 (Ac 8 (.ptr h 0) λn=>
 Z n i λo=>
 Ac 0 (.ptr h 0) λp=>
 Ac 1 p λq=>
 Z q i λr=>
 Bv r λs uG=>
 a (.func 92) [o,(.str s uG)] i λt u=>
 Be t λv=>
 k8 v u)
 (k8 true i)) λw x=>
 V w
 (A3 9 (.ptr h 0) x λy=>
 a (.func 93) [c,y] x λ_ d=>
 b (.tuple []) d)
 (Ac 0 (.ptr h 0) λf=>
 A3 8 f x λg=>
 a (.func 94) [c,g] x λj k=>
 ext 0 j λl=>
 ext 1 j λm=>
 Be m λn=>
 Hp.Bu k Kw λp q=>
 CV 8 (.ptr p 0) l q λr=>
 V n
 (A3 8 (.ptr p 0) r λo=>
 Ac 8 (.ptr h 0) λs=>
 Z s r λt=>
 oK (AF env (env.ty 131) [(0,o),(1,t)] r) λu v=>
 a (.func 93) [c,u] v λ_ i=>
 b (.tuple []) i)
 (oK (Ag c r) λw y=>
 Ac 0 w λd=>
 Z d y λf=>
 oK (Ag f y) λg x=>
 Ac 0 g λj=>
 Z j x λm=>
 oV (Dh env .neq 96 m .Bn) λk=>
 Be k λl=>
 V l
 (oK (Ag c x) λq n=>
 Ac 0 q λp=>
 Z p n λs=>
 oK (Ag s n) λo t=>
 Ac 5 o λa=>
 Z a t λu=>
 Ac 0 (.ptr h 0) λv=>
 Ac 1 v λb=>
 Z b t λi=>
 Bv i λr c63=>
 oK (BO env 100 u (.str r c63) false t) λw d=>
 Ar .i64 w λf=>
 fI (wrap .i64 (AW f (vJ 1))) λy=>
 oK (Cg env 100 u (.str r c63) (.int .i64 y) d) λ_ g=>
 J.a1 c (.ptr h 0) g)
 (J.a1 c (.ptr h 0) x)))
def VA(a:CF)(b:KV)(_J:dQ)(c d:U)(f:H):Prop:=
 oK (Ag c f) λg h=>
 Ac 0 g λi=>
 Z i h λj=>
 oK (Ag j h) λk l=>
 Ac 0 k λm=>
 Z m l λn=>
 Ac 0 d λo=>
 Ac 1 o λp=>
 Z p l λq=>
 Bv q λr s=>
 a (.func 95) [n,(.str r s)] l λt u=>
 oV (Dh env .eql 220 t .Bn) λv=>
 Be v λw=>
 AM (λx=>gate false w
 (oK (Ag t u) λy f=>
 Ac 1 y λg=>
 Z g f λi=>
 Be i λh=>
 AM (λj=>gate true h
 (oK (Ag c f) λk m=>
 Ac 2 k λo=>
 Z o m λp=>
 Bz p λq=>
 AM (λl=>gate false (AN (vJ q) (vJ 0))
 (a (.func 70) [c,(.int .i64 (vJ 0))] m λn r=>
 Apq 0 8 n λs=>
 a (.func 96) [s,(.str 1 40)] r λv w=>
 Be v λy=>
 l (Bm y) w)
 (l true m)) λg i=>
 j g i)
 (j false f)) λh k=>
 x h k)
 (x true u)) λo p=>
 V o
 (A3 9 d p λq=>
 a (.func 93) [c,q] p λ_ n=>
 b (.tuple []) n)
 (oK (Ag t p) λr s=>
 Ac 1 r λv=>
 Z v s λw=>
 Be w λy=>
 V y
 (A3 9 d s λl=>
 a (.func 97) [c,t,l] s λ_ m=>
 b (.tuple []) m)
 (A3 9 d s λg=>
 Ac 8 d λi=>
 Z i s λf=>
 oK (Ag t s) λj h=>
 Ac 0 j λk=>
 Z k h λu=>
 Bv u λx o=>
 oK (AE env 32 (λe q=>Ap 1 [(0,(.str x o))] h e q)) λn p=>
 A3 9 d p λr=>
 BE r g<|
 Z i p λv=>
 BE v f<|
 a (.func 99) [f,n] p λw y=>
 A3 9 d y λl=>
 BE l g<|
 a (.func 98) [c,t,g,.Af,.Af,w] y λ_ m=>
 b (.tuple []) m))
def z71:dQ:=⟨λ_ _ _=>False,λ_ _ _=>False⟩
def ct(c:CF)(k:KV)(m:Nat):dQ:=vP z71 (λ_ J=>⟨WO c k J,VA c k J⟩) m
def f71(J:dQ):Jump:=λL f h=>match L with
 |0=>J.a0 (f 0) (f 1) h
 |1=>J.a1 (f 0) (f 3) h
 |_=>False
def u71:As:=[(.root,0),((.r (.r (.r (.r .root)))),1)]
def d73:Code:=wz .skip (λc=>c) Tryz.f73.body
def q73:Ak:=[]
def u73:As:=[(.root,0)]
def d74:Code:=wz .skip (λc=>c) Tryz.f74.body
def q74:Ak:=[]
def u74:As:=[(.root,0)]
def d75:Code:=wz .skip (λc=>c) Tryz.f75.body
def q75:Ak:=[]
structure J75 where
 a0:Nat→Nat→H→Prop
def Wz(_c:CF)(a:KV)(_J:J75)(b c:Nat)(d:H):Prop:=
 V (CL b c 0 0)
 (a .Bn d)
 (oK (AF env (env.ty 189) [(0,(.str b c)),(3,(.int .i64 (vJ b))),(4,(.int .i64 (vJ 1)))] d) λf g=>
 EX f λg3=>
 Fa (vU 1 (len g3))<|
 Hp.Bu g (rowOf 189 g3) λh i=>
 a (.ptr h 0) i)
def z75:J75:=⟨λ_ _ _=>False⟩
def qS(c:CF)(k:KV)(m:Nat):J75:=vP z75 (λ_ J=>⟨Wz c k J⟩) m
def f75(J:J75):Jump:=λa f b=>match a with
 |0=>Bv (f 0) λc d=>J.a0 c d b
 |_=>False
def u75:As:=[(.root,0)]
def d76:Code:=wz .skip (λc=>c) Tryz.f76.body
def q76:Ak:=[]
structure J76 where
 a0:U→U→H→Prop
def Wm(a:CF)(b:KV)(_J:J76)(c d:U)(f:H):Prop:=
 a (.func 103) [c] f λg h=>
 Ar .i64 g λi=>
 a (.func 103) [d] h λj k=>
 Ar .i64 j λl=>
 fI (wrap .i64 (AW i l)) λm=>
 a (.func 104) [c] k λn o=>
 Ar .i64 n λp=>
 a (.func 104) [d] o λq r=>
 Ar .i64 q λs=>
 oK (AB env .max [3,3] [(.int .i64 p),(.int .i64 s)] r) λt u=>
 Ar .i64 t λv=>
 fI (wrap .i64 (AW (vJ 1) v)) λw=>
 oK (AF env (env.ty 189) [(1,c),(2,d),(3,(.int .i64 m)),(4,(.int .i64 w))] u) λx y=>
 EX x λg20=>
 Fa (vU 1 (len g20))<|
 Hp.Bu y (rowOf 189 g20) λf g=>
 b (.ptr f 0) g
def z76:J76:=⟨λ_ _ _=>False⟩
def oS(c:CF)(k:KV)(m:Nat):J76:=vP z76 (λ_ J=>⟨Wm c k J⟩) m
def f76(J:J76):Jump:=λL f h=>match L with
 |0=>J.a0 (f 0) (f 1) h
 |_=>False
def u76:As:=[(.root,0)]
def d77:Code:=wz .skip (λc=>c) Tryz.f77.body
def q77:Ak:=[]
structure lC where
 a0:U→Int→H→Prop
def Wg(a:CF)(b:KV)(_J:lC)(c:U)(d:Int)(f:H):Prop:=
 oK (Ag c f) λg h=>
 Ac 0 g λi=>
 a (.func 105) [i,(.int .i64 d)] h λj k=>
 Ar .i64 j λl=>
 b (.int .i64 l) k
def z77:lC:=⟨λ_ _ _=>False⟩
def tR(c:CF)(k:KV)(m:Nat):lC:=vP z77 (λ_ J=>⟨Wg c k J⟩) m
def f77(J:lC):Jump:=λa f b=>match a with
 |0=>Ar .i64 (f 1) λc=>J.a0 (f 0) c b
 |_=>False
def u77:As:=[(.root,0)]
def d79:Code:=wz .skip (λc=>c) Tryz.f79.body
def q79:Ak:=[]
structure J79 where
 a0:U→U→H→Prop
def Vz(a:CF)(b:KV)(_J:J79)(c d:U)(f:H):Prop:=
 a (.func 103) [c] f λg h=>
 Ar .i64 g λi=>
 V (AN i (vJ 0))
 (b (.tuple []) h)
 (oK (Ag c h) λj k=>
 Ac 1 j λl=>
 Z l k λm=>
 oV (Dh env .eql 87 m .Bn) λn=>
 Be n λo=>
 V o
 (oK (Ag c k) λp q=>
 Ac 0 p λr=>
 Z r q λs=>
 Bv s λt bV=>
 HZ (CP env) a d [(.str t bV)] q λ_ u=>
 b (.tuple []) u)
 (oK (Ag c k) λv w=>
 Ac 1 v λx=>
 Z x w λy=>
 a (.func 79) [y,d] w λ_ f=>
 oK (Ag c f) λg i=>
 Ac 2 g λh=>
 Z h i λj=>
 a (.func 79) [j,d] i λ_ l=>
 b (.tuple []) l))
def z79:J79:=⟨λ_ _ _=>False⟩
def r79(c:CF)(k:KV)(m:Nat):J79:=vP z79 (λ_ J=>⟨Vz c k J⟩) m
def f79(J:J79):Jump:=λL f h=>match L with
 |0=>J.a0 (f 0) (f 1) h
 |_=>False
def u79:As:=[(.root,0)]
def d80:Code:=wz .skip (λc=>c) Tryz.f80.body
def q80:Ak:=[]
structure J80 where
 a0:Nat→Nat→U→H→Prop
def Ya(a:CF)(b:KV)(_J:J80)(c d:Nat)(f:U)(g:H):Prop:=
 a (.func 81) [f,(.str c d)] g λ_ h=>
 b (.tuple []) h
def z80:J80:=⟨λ_ _ _ _=>False⟩
def r80(c:CF)(k:KV)(m:Nat):J80:=vP z80 (λ_ J=>⟨Ya c k J⟩) m
def f80(J:J80):Jump:=λa f b=>match a with
 |0=>Bv (f 0) λc d=>J.a0 c d (f 1) b
 |_=>False
def u80:As:=[(.root,0)]
def d81:Code:=wz .skip (λc=>c) Tryz.f81.body
def q81:Ak:=[]
structure J81 where
 a0:U→Nat→Nat→H→Prop
def W6(a:CF)(b:KV)(_J:J81)(c:U)(d f:Nat)(g:H):Prop:=
 a (.func 106) [c] g λ_ h=>
 oK (Ag c h) λi j=>
 Ac 1 i λk=>
 Z k j λl=>
 oK (AB env .append [79,9] [l,(.str d f)] j) λm n=>
 oK (Ag c n) λo p=>
 Ac 1 o λq=>
 BC q m p λr=>
 b (.tuple [(.int .i64 (vJ d)),.FC]) r
def z81:J81:=⟨λ_ _ _ _=>False⟩
def r81(c:CF)(k:KV)(m:Nat):J81:=vP z81 (λ_ J=>⟨W6 c k J⟩) m
def f81(J:J81):Jump:=λa f b=>match a with
 |0=>Bv (f 1) λc d=>J.a0 (f 0) c d b
 |_=>False
def u81:As:=[(.root,0)]
def d82:Code:=wz .skip (λc=>c) Tryz.f82.body
def q82:Ak:=[(1,[0,1,2,3,4,5,6,7,8,9,10,11])]
structure J82 where
 a0:U→H→Prop
def Ws(_c:CF)(a:KV)(_J:J82)(b:U)(c:H):Prop:=
 oK (Ag b c) λd f=>
 Ac 1 d λg=>
 Z g f λh=>
 oK (AB env .unsafeSliceData [79] [h] f) λi j=>
 oK (Ag b j) λk l=>
 Ac 1 k λm=>
 Z m l λn=>
 Bz n λo=>
 oK (AB env .unsafeString [232,3] [i,(.int .i64 (vJ o))] l) λp q=>
 Bv p λr bV=>
 a (.str r bV) q
def z82:J82:=⟨λ_ _=>False⟩
def r82(c:CF)(k:KV)(m:Nat):J82:=vP z82 (λ_ J=>⟨Ws c k J⟩) m
def f82(J:J82):Jump:=λL f h=>match L with
 |0=>J.a0 (f 0) h
 |_=>False
def u82:As:=[(.root,0)]
def d83:Code:=wz .skip (λc=>c) Tryz.f83.body
def q83:Ak:=[(7,[0,1,2,3,4,5,6,7,8])]
structure qM where
 a0:U→U→H→Prop
def Rv(a:CF)(b:KV)(_J:qM)(c d:U)(f:H):Prop:=
 Bz d λg=>
 AM (λk2=>gate false (AN (vJ g) (vJ 0))
 (A7 8 0 d λh=>
 A3 8 h f λi=>
 a (.func 107) [i] f λj k=>
 Be j λl=>
 k2 (Bm l) k)
 (k2 true f)) λm n=>
 V m
 (b (.int .i64 (vJ 0)) n)
 (Bz d λo=>
 V (AN (vJ o) (vJ 1))
 (b (.int .i64 (vJ 1)) n)
 (A7 8 1 d λp=>
 Ac 0 p λq=>
 Z q n λr=>
 Ar .i64 r λs=>
 V (Bm (AN s (vJ 1)))
 (b (.int .i64 (vJ 14)) n)
 (oK (Ag c n) λt u=>
 Ac 0 t λv=>
 A7 8 1 d λw=>
 Ac 1 w λx=>
 Z x u λy=>
 Bv y λg c22=>
 a (.func 108) [v,(.str g c22)] u λh i=>
 Ar .i64 h λj=>
 b (.int .i64 j) i)))
def z83:qM:=⟨λ_ _ _=>False⟩
def r83(c:CF)(k:KV)(m:Nat):qM:=vP z83 (λ_ J=>⟨Rv c k J⟩) m
def f83(J:qM):Jump:=λL f h=>match L with
 |0=>J.a0 (f 0) (f 1) h
 |_=>False
def u83:As:=[(.root,0)]
def d84:Code:=wz .skip (λc=>c) Tryz.f84.body
def ll:Ak:=[(3,[0,1,2,3,4,5,6,7,8,9,10,11,12,13,14,15]),(10,[0,1,2,3,4,5,6,7,8])]
structure Pj where
 a0:U→Int→U→H→Prop
 a1:U→U→H→Prop
 a2:U→Int→Bool→H→Prop
 a3:U→Int→Int→Bool→H→Prop
 a4:U→Int→H→Prop
def VX(_c:CF)(_k:KV)(J:Pj)(a:U)(b:Int)(c:U)(d:H):Prop:=
 EX c λf=>
 Fa (vU 1 (len f))<|
 Hp.Bu d (rowOf 157 f) λg h=>
 A3 4 (.ptr g 0) h λi=>
 oK (AF env (env.ty 45) [] h) λj k=>
 oK (Ag a k) λl m=>
 Ac 6 l λn=>
 CV 4 n i m λo=>
 oK (Ag a o) λp q=>
 Ac 10 p λr=>
 CV 3 r j q λs=>
 oK (Ag a s) λt u=>
 Ac 13 t λv=>
 BC v .Af u λw=>
 V (Bm (AN b (vJ 1)))
 (Ac 0 (.ptr g 0) λx=>
 Z x w λy=>
 A7 8 1 y λc=>
 Ac 3 c λd=>
 A3 3 d w λf=>
 Ac 0 (.ptr g 0) λh=>
 Z h w λk=>
 oK (slice3 env w 30 k (some (Bf (.int .i64 (vJ 2)))) none none) λl i=>
 oK (Ag a i) λm n=>
 Ac 10 m λo=>
 CV 3 o f n λp=>
 Z h p λj=>
 BE j k<|
 oK (Ag a p) λq r=>
 Ac 13 q λs=>
 BC s l r λt=>
 J.a4 a b t)
 (J.a4 a b w)
def Aea(_c:CF)(a:KV)(_J:Pj)(b c:U)(d:H):Prop:=
 oK (Ag b d) λf g=>
 Ac 5 f λh=>
 Z h g λi=>
 oK (AE env 156 (λe j=>Ap 1 [(0,c)] g e j)) λk l=>
 oK (AB env .append [156,156] [i,k] l) λm n=>
 oK (Ag b n) λo p=>
 Ac 5 o λq=>
 BC q m p λr=>
 a (.tuple []) r
def Yg(a:CF)(b:KV)(_J:Pj)(c:U)(d:Int)(f:Bool)(g:H):Prop:=
 V f
 (a (.func 110) [c,(.int .i64 d)] g λ_ h=>
 b (.tuple []) h)
 (a (.func 85) [c] g λi j=>
 Be i λk=>
 V (Bm k)
 (a (.func 111) [c,(.int .i64 d)] j λ_ l=>
 b (.tuple []) l)
 (b (.tuple []) j))
def Xg(a:CF)(_k:KV)(J:Pj)(b:U)(c d:Int)(f:Bool)(g:H):Prop:=
 V f
 (oK (Ag b g) λh i=>
 Ac 10 h λj=>
 A3 3 j i λk=>
 a (.func 85) [b] i λl m=>
 Be l λn=>
 A3 3 j m λo=>
 BE o k<|
 oK (AF env (env.ty 163) [(0,k),(1,(.bool n))] m) λp q=>
 EX p λr=>
 Fa (vU 1 (len r))<|
 Hp.Bu q (rowOf 163 r) λs t=>
 oK (Ag (.ptr s 0) t) λu v=>
 Ac 3 u λw=>
 Z w v λx=>
 Be x λy=>
 V (Bm y)
 (a (.func 109) [b,(.int .i64 c)] v λf h=>
 Be f λi=>
 oK (Ag (.ptr s 0) h) λl j=>
 Ac 4 l λo=>
 BC o (.bool i) j λk=>
 oK (Ag (.ptr s 0) k) λm n=>
 Ac 4 m λp=>
 Z p n λq=>
 Be q λr=>
 oK (Ag (.ptr s 0) n) λt u=>
 Ac 5 t λw=>
 BC w (.bool r) u λx=>
 J.a1 b (.ptr s 0) x)
 (J.a1 b (.ptr s 0) v))
 (V (AN d (vJ 5))
 (J.a2 b c (AN d (vJ 5)) g)
 (V (AN d (vJ 6))
 (J.a2 b c (AN d (vJ 6)) g)
 (J.a2 b c (AN d (vJ 7)) g)))
def XU(_c:CF)(_k:KV)(J:Pj)(a:U)(b:Int)(c:H):Prop:=
 V (AN b (vJ 2))
 (J.a3 a b b (AN b (vJ 2)) c)
 (V (AN b (vJ 3))
 (J.a3 a b b (AN b (vJ 3)) c)
 (J.a3 a b b (AN b (vJ 4)) c))
def z84:Pj:=⟨λ_ _ _ _=>False,λ_ _ _=>False,λ_ _ _ _=>False,λ_ _ _ _ _=>False,λ_ _ _=>False⟩
def PU(c:CF)(k:KV)(m:Nat):Pj:=vP z84 (λ_ J=>⟨VX c k J,Aea c k J,Yg c k J,Xg c k J,XU c k J⟩) m
def f84(J:Pj):Jump:=λa f b=>match a with
 |0=>Ar .i64 (f 1) λc=>J.a0 (f 0) c (f 2) b
 |1=>J.a1 (f 0) (f 6) b
 |2=>Ar .i64 (f 1) λc=>Be (f 81) λd=>J.a2 (f 0) c d b
 |3=>Ar .i64 (f 1) λc=>Ar .i64 (f 34) λg=>Be (f 41) λh=>J.a3 (f 0) c g h b
 |4=>Ar .i64 (f 1) λc=>J.a4 (f 0) c b
 |_=>False
def jw:As:=[(.root,0),((.r (.r (.l (.r (.l (.r (.r (.r (.r .root))))))))),1),((.r (.r (.r (.l (.r (.r (.r (.r .root)))))))),2),((.r (.l (.r (.r (.r (.r .root)))))),3),((.r (.r (.r .root))),4)]
def d85:Code:=wz .skip (λc=>c) Tryz.f85.body
def q85:Ak:=[(1,[0,1,2,3,4,5,6,7,8,9,10,11,12,13,14,15,16,17,18,19,20,21,22,23,24])]
structure oQ where
 a0:U→H→Prop
def XM(_c:CF)(a:KV)(_J:oQ)(b:U)(c:H):Prop:=
 oK (Ag b c) λd f=>
 Ac 5 d λg=>
 Z g f λh=>
 Bz h λi=>
 AM (λk6=>gate true (Ba (vJ 0) (vJ i))
 (oK (Ag b f) λj k=>
 Ac 5 j λl=>
 Z l k λm=>
 oK (Ag b k) λn o=>
 Ac 5 n λp=>
 Z p o λq=>
 Bz q λr=>
 fI (wrap .i64 (EU (vJ r) (vJ 1))) λs=>
 Bo s λt=>
 A7 1 t m λu=>
 Z u o λv=>
 oK (Ag v o) λw x=>
 Ac 4 w λy=>
 Z y x λc=>
 Be c λd=>
 k6 (Bm d) x)
 (k6 false f)) λg h=>
 a (.bool g) h
def z85:oQ:=⟨λ_ _=>False⟩
def oz(c:CF)(k:KV)(m:Nat):oQ:=vP z85 (λ_ J=>⟨XM c k J⟩) m
def f85(J:oQ):Jump:=λL f h=>match L with
 |0=>J.a0 (f 0) h
 |_=>False
def u85:As:=[(.root,0)]
def d86:Code:=wz .skip (λc=>c) Tryz.f86.body
def q86:Ak:=[(1,[0,1,2,3,4,5,6,7,8,9,10,11,12])]
structure cC where
 a0:U→U→H→Prop
 a1:U→U→U→Int→Int→H→Prop
def Xc(_c:CF)(_k:KV)(J:cC)(a b:U)(c:H):Prop:=
 EX b λd=>
 Fa (vU 1 (len d))<|
 Hp.Bu c (rowOf 116 d) λf g=>
 oK (Ag a g) λh i=>
 Ac 8 h λj=>
 Ac 1 j λk=>
 Z k i λl=>
 Ac 1 (.ptr f 0) λm=>
 Z m i λn=>
 oK (AB env .append [31,31] [l,n] i) λo p=>
 oK (Ag a p) λq r=>
 Ac 8 q λs=>
 Ac 1 s λt=>
 BC t o r λu=>
 oK (Ag a u) λv w=>
 Ac 8 v λx=>
 Ac 4 x λy=>
 Z y w λb=>
 Be b λc=>
 AM (λdD=>gate false c
 (Ac 2 (.ptr f 0) λd=>
 Z d w λg=>
 Be g λh=>
 dD h w)
 (dD true w)) λj k=>
 oK (Ag a k) λm i=>
 Ac 8 m λl=>
 Ac 4 l λn=>
 BC n (.bool j) i λp=>
 Ac 3 (.ptr f 0) λq=>
 Z q p λs=>
 Bz s λo=>
 J.a1 a (.ptr f 0) s (vJ o) (vJ 0) p
def XW(_c:CF)(a:KV)(J:cC)(b c d:U)(f g:Int)(h:H):Prop:=
 V (Ba g f)
 (Bo g λi=>
 A7 1 i d λj=>
 Z j h λk=>
 Bv k λl c42=>
 oK (Ag b h) λm n=>
 Ac 14 m λo=>
 Z o n λp=>
 oK (BO env 100 p (.str l c42) false n) λq r=>
 Ar .i64 q λs=>
 fI (wrap .i64 (AW s (vJ 1))) λt=>
 oK (Cg env 100 p (.str l c42) (.int .i64 t) r) λ_ u=>
 fI (wrap .i64 (AW g (vJ 1))) λv=>
 J.a1 b c d f v u)
 (Ac 0 c λw=>
 Z w h λx=>
 a x h)
def z86:cC:=⟨λ_ _ _=>False,λ_ _ _ _ _ _=>False⟩
def ay(c:CF)(k:KV)(m:Nat):cC:=vP z86 (λ_ J=>⟨Xc c k J,XW c k J⟩) m
def f86(J:cC):Jump:=λa f b=>match a with
 |0=>J.a0 (f 0) (f 1) b
 |1=>Ar .i64 (f 34) λc=>Ar .i64 (f 35) λd=>J.a1 (f 0) (f 3) (f 33) c d b
 |_=>False
def u86:As:=[(.root,0),((.l (.r (.l (.r (.r (.r .root)))))),1)]
def d88:Code:=wz .skip (λc=>c) Tryz.f88.body
def q88:Ak:=[(17,[0,1,2,3,4,5,6,7,8,9,10,11,12,13,14])]
def u88:As:=[(.root,0),((.l (.r (.r .root))),1),((.r (.r (.r (.r (.r (.r (.r (.l (.l (.l (.r (.r .root)))))))))))),2),((.r (.r (.r (.r (.r (.r (.l (.l (.l (.r (.r .root))))))))))),3),((.r (.r (.r (.r (.l (.l (.l (.r (.r .root))))))))),4)]
def d89:Code:=wz .skip (λc=>c) Tryz.f89.body
def q89:Ak:=[]
def u89:As:=[(.root,0)]
def d90:Code:=wz .skip (λc=>c) Tryz.f90.body
def q90:Ak:=[]
structure bO where
 a0:Nat→Nat→H→Prop
 a1:Nat→Nat→U→Int→H→Prop
def cP(a:CF)(b:KV)(J:bO)(c d:Nat)(f:H):Prop:=
 V (CJ (vJ c) (vJ 0))
 (b .Af f)
 (a (.func 123) [(.str c d),(.int .i64 (vJ 0))] f λg h=>
 Hp.Bu h Kg λi j=>
 CV 3 (.ptr i 0) g j λk=>
 Ac 2 (.ptr i 0) λl=>
 Z l k λm=>
 Ar .i64 m λn=>
 Ac 0 (.ptr i 0) λo=>
 Z o k λp=>
 Ar .u8 p λq=>
 AM (λcR=>gate true (AN q (vJ 92))
 (cR (Ba n (vJ c)) k)
 (cR false k)) λr s=>
 AM (λO5=>gate true r
 (Bo n λt=>
 FG c d t λu=>
 O5 (AN (vJ u) (vJ 10)) s)
 (O5 false s)) λv w=>
 V v
 (fI (wrap .i64 (AW n (vJ 1))) λx=>
 J.a1 c d .Af x w)
 (A3 3 (.ptr i 0) w λy=>
 oK (AE env 167 (λe b=>Ap 1 [(0,y)] w e b)) λa f=>
 oK (AB env .append [167,167] [.Af,a] f) λh g=>
 J.a1 c d h n g))
def Pl(a:CF)(b:KV)(J:bO)(c d:Nat)(f:U)(g:Int)(h:H):Prop:=
 V (CJ (vJ c) g)
 (b f h)
 (a (.func 123) [(.str c d),(.int .i64 g)] h λi j=>
 Hp.Bu j Kg λk l=>
 CV 3 (.ptr k 0) i l λm=>
 Ac 2 (.ptr k 0) λn=>
 Z n m λo=>
 Ar .i64 o λp=>
 Ac 0 (.ptr k 0) λq=>
 Z q m λr=>
 Ar .u8 r λs=>
 AM (λt=>gate true (AN s (vJ 92))
 (t (Ba p (vJ c)) m)
 (t false m)) λu v=>
 AM (λw=>gate true u
 (Bo p λx=>
 FG c d x λy=>
 w (AN (vJ y) (vJ 10)) v)
 (w false v)) λb a=>
 V b
 (fI (wrap .i64 (AW p (vJ 1))) λg=>
 J.a1 c d f g a)
 (A3 3 (.ptr k 0) a λh=>
 oK (AE env 167 (λe j=>Ap 1 [(0,h)] a e j)) λi l=>
 oK (AB env .append [167,167] [f,i] l) λn o=>
 J.a1 c d n p o))
def z90:bO:=⟨λ_ _ _=>False,λ_ _ _ _ _=>False⟩
def T7(c:CF)(k:KV)(m:Nat):bO:=vP z90 (λ_ J=>⟨cP c k J,Pl c k J⟩) m
def f90(J:bO):Jump:=λa f b=>match a with
 |0=>Bv (f 0) λc d=>J.a0 c d b
 |1=>Bv (f 0) λc d=>Ar .i64 (f 3) λg=>J.a1 c d (f 2) g b
 |_=>False
def u90:As:=[(.root,0),((.lab (.r .root) 0),1)]
def d91:Code:=wz .skip (λc=>c) Tryz.f91.body
def dY:Ak:=[(4,[0,1,2,3,4,5,6,7,8,9,10,11,12,13,14,15,16,17,18,19,20,21,22,23]),(5,[0,1,2,3,4,5,6,7,8,9,10,11]),(11,[0,1,2,3,4,5,6,7,8,9,10,11,12,13,14,15,16]),(16,[0,2,3,4,5,6,7,8,9,10,11,12,13,14,15,16,1,17,18,19])]
structure Na where
 a0:U→H→Prop
 a1:U→U→Bool→U→Int→Int→U→Int→Int→H→Prop
 a2:U→U→Bool→Bool→U→H→Prop
 a3:U→U→Bool→U→Int→Int→U→Int→Int→H→Prop
 a4:U→Bool→Bool→H→Prop
 a5:U→U→Bool→Bool→U→Bool→H→Prop
def Xq(a:CF)(_k:KV)(J:Na)(b:U)(c:H):Prop:=
 Hp.Bu c Kw λd f=>
 Hp.Bu f Is λg h=>
 oK (Ag b h) λi j=>
 Ac 2 i λk=>
 Z k j λl=>
 Ar .i64 l λm=>
 oK (Ag b j) λn o=>
 Ac 1 n λp=>
 Z p o λq=>
 Bz q λr=>
 AM (λO5=>gate false (CJ (vJ r) m)
 (oK (Ag b o) λs t=>
 Ac 1 s λu=>
 Z u t λv=>
 oK (Ag b t) λw x=>
 Ac 2 w λy=>
 Z y x λc=>
 Ar .i64 c λf=>
 Bo f λh=>
 A7 3 h v λi=>
 Ac 0 i λk=>
 Z k x λl=>
 Ar .u8 l λj=>
 O5 (AN j (vJ 10)) x)
 (O5 true o)) λn p=>
 V n
 (J.a4 (.ptr d 0) false false p)
 (oK (Ag b p) λq m=>
 Ac 1 q λr=>
 Z r m λs=>
 oK (Ag b m) λu t=>
 Ac 2 u λw=>
 Z w t λy=>
 Ar .i64 y λc=>
 Bo c λf=>
 A7 3 f s λh=>
 Ac 0 h λv=>
 Z v t λi=>
 Ar .u8 i λk=>
 a (.func 124) [(.int .u8 k)] t λl j=>
 Be l λx=>
 V x
 (oK (Ag b j) λo n=>
 Ac 2 o λp=>
 Z p n λq=>
 Ar .i64 q λr=>
 fI (wrap .i64 (AW r (vJ 1))) λm=>
 oK (Ag b n) λu w=>
 Ac 2 u λy=>
 BC y (.int .i64 m) w λc=>
 oK (Ag b c) λf s=>
 Ac 4 f λh=>
 BC h (.bool true) s λv=>
 J.a2 b (.ptr d 0) false false (.ptr g 0) v)
 (a (.func 125) [b] j λi k=>
 ext 0 i λt=>
 Be t λl=>
 ext 1 i λx=>
 Be x λo=>
 J.a5 b (.ptr d 0) o false (.ptr g 0) l k))
def Wp(a:CF)(b:KV)(J:Na)(c d:U)(f:Bool)(g:U)(h i:Int)(j:U)(k l:Int)(m:H):Prop:=
 V (Ba l k)
 (Bo l λn=>
 A7 3 n j λo=>
 A3 3 o m λp=>
 Hp.Bu m Kg λq r=>
 CV 3 (.ptr q 0) p r λs=>
 Ac 0 (.ptr q 0) λt=>
 Z t s λu=>
 Ar .u8 u λv=>
 a (.func 127) [g,(.int .u8 v)] s λ_ w=>
 fI (wrap .i64 (AW l (vJ 1))) λx=>
 J.a1 c d f g h i j k x w)
 (oK (Ag c m) λy n=>
 Ac 4 y λo=>
 Z o n λp=>
 Be p λr=>
 oK (Ag c n) λq t=>
 Ac 2 q λu=>
 Z u t λs=>
 Ar .i64 s λv=>
 oK (Ag c t) λl j=>
 Ac 2 l λk=>
 Z k j λw=>
 Ar .i64 w λx=>
 fI (wrap .i64 (AW x i)) λm=>
 a (.func 82) [g] j λy p=>
 Bv y λn q=>
 Z o p λs=>
 Be s λt=>
 BE (.bool t) (.bool r)<|
 Z u p λl=>
 Ar .i64 l λw=>
 BE (.int .i64 w) (.int .i64 v)<|
 Z k p λg=>
 Ar .i64 g λj=>
 BE (.int .i64 j) (.int .i64 x)<|
 a (.func 128) [c,(.int .i64 v),(.int .i64 m)] p λy s=>
 Z o s λt=>
 Be t λu=>
 BE (.bool u) (.bool r)<|
 oK (AF env (env.ty 48) [(0,(.int .i64 h)),(1,(.str n q)),(2,(.bool r)),(3,y)] s) λl w=>
 CV 8 d l w λk=>
 oK (Ag c k) λg j=>
 Ac 2 g λx=>
 Z x j λa=>
 Ar .i64 a λm=>
 fI (wrap .i64 (AW m i)) λp=>
 oK (Ag c j) λv o=>
 Ac 2 v λt=>
 BC t (.int .i64 p) o λu=>
 oK (Ag c u) λh n=>
 Ac 4 h λq=>
 BC q (.bool false) n λr=>
 A3 8 d r λs=>
 CV 8 d s r λy=>
 A3 8 d y λl=>
 b (.tuple [l,(.bool f),(.bool true)]) y)
def Xf(a:CF)(_k:KV)(J:Na)(b c:U)(d f:Bool)(g:U)(h:H):Prop:=
 oK (Ag b h) λi j=>
 Ac 2 i λk=>
 Z k j λl=>
 Ar .i64 l λm=>
 oK (Ag b j) λn o=>
 Ac 1 n λp=>
 Z p o λq=>
 Bz q λr=>
 AM (λs=>gate false (CJ (vJ r) m)
 (oK (Ag b o) λt u=>
 Ac 1 t λv=>
 Z v u λw=>
 oK (Ag b u) λx y=>
 Ac 2 x λh=>
 Z h y λi=>
 Ar .i64 i λk=>
 Bo k λl=>
 A7 3 l w λj=>
 Ac 0 j λn=>
 Z n y λp=>
 Ar .u8 p λq=>
 s (AN q (vJ 10)) y)
 (s true o)) λm r=>
 V m
 (J.a4 c d f r)
 (oK (Ag b r) λt v=>
 Ac 1 t λu=>
 Z u v λx=>
 oK (Ag b v) λh i=>
 Ac 2 h λk=>
 Z k i λl=>
 Ar .i64 l λw=>
 Bo w λj=>
 A7 3 j x λn=>
 Ac 0 n λp=>
 Z p i λq=>
 Ar .u8 q λy=>
 a (.func 124) [(.int .u8 y)] i λo s=>
 Be o λm=>
 V m
 (oK (Ag b s) λr t=>
 Ac 2 r λu=>
 Z u t λv=>
 Ar .i64 v λh=>
 fI (wrap .i64 (AW h (vJ 1))) λk=>
 oK (Ag b t) λl w=>
 Ac 2 l λj=>
 BC j (.int .i64 k) w λx=>
 oK (Ag b x) λn p=>
 Ac 4 n λq=>
 BC q (.bool true) p λi=>
 J.a2 b c d f g i)
 (a (.func 125) [b] s λy o=>
 ext 0 y λm=>
 Be m λr=>
 ext 1 y λu=>
 Be u λv=>
 V r
 (oK (Ag b o) λh t=>
 Ac 4 h λl=>
 BC l (.bool true) t λj=>
 J.a2 b c v f g j)
 (a (.func 126) [b] o λk w=>
 ext 0 k λx=>
 Ar .i64 x λn=>
 ext 1 k λp=>
 Ar .i64 p λq=>
 oK (Ag b w) λd i=>
 Ac 1 d λs=>
 Z s i λm=>
 oK (Ag b i) λy u=>
 Ac 2 y λr=>
 Z r u λh=>
 Ar .i64 h λl=>
 oK (Ag b u) λt f=>
 Ac 2 t λj=>
 Z j f λa=>
 Ar .i64 a λo=>
 fI (wrap .i64 (AW o q)) λx=>
 oK (slice3 env f 167 m (some (Bf (.int .i64 l))) (some (Bf (.int .i64 x))) none) λk p=>
 Bz k λw=>
 J.a3 b c v g n q k (vJ w) (vJ 0) p)))
def WG(a:CF)(b:KV)(J:Na)(c d:U)(f:Bool)(g:U)(h i:Int)(j:U)(k l:Int)(m:H):Prop:=
 V (Ba l k)
 (Bo l λn=>
 A7 3 n j λo=>
 A3 3 o m λp=>
 Hp.Bu m Kg λq r=>
 CV 3 (.ptr q 0) p r λs=>
 Ac 0 (.ptr q 0) λt=>
 Z t s λu=>
 Ar .u8 u λv=>
 a (.func 127) [g,(.int .u8 v)] s λ_ w=>
 fI (wrap .i64 (AW l (vJ 1))) λx=>
 J.a3 c d f g h i j k x w)
 (oK (Ag c m) λy n=>
 Ac 4 y λo=>
 Z o n λp=>
 Be p λr=>
 oK (Ag c n) λq t=>
 Ac 2 q λu=>
 Z u t λs=>
 Ar .i64 s λv=>
 oK (Ag c t) λl j=>
 Ac 2 l λk=>
 Z k j λw=>
 Ar .i64 w λx=>
 fI (wrap .i64 (AW x i)) λm=>
 a (.func 82) [g] j λy p=>
 Bv y λn q=>
 Z o p λs=>
 Be s λt=>
 BE (.bool t) (.bool r)<|
 Z u p λl=>
 Ar .i64 l λw=>
 BE (.int .i64 w) (.int .i64 v)<|
 Z k p λg=>
 Ar .i64 g λj=>
 BE (.int .i64 j) (.int .i64 x)<|
 a (.func 128) [c,(.int .i64 v),(.int .i64 m)] p λy s=>
 Z o s λt=>
 Be t λu=>
 BE (.bool u) (.bool r)<|
 oK (AF env (env.ty 48) [(0,(.int .i64 h)),(1,(.str n q)),(2,(.bool r)),(3,y)] s) λl w=>
 CV 8 d l w λk=>
 oK (Ag c k) λg j=>
 Ac 2 g λx=>
 Z x j λa=>
 Ar .i64 a λm=>
 fI (wrap .i64 (AW m i)) λp=>
 oK (Ag c j) λv o=>
 Ac 2 v λt=>
 BC t (.int .i64 p) o λu=>
 oK (Ag c u) λh n=>
 Ac 4 h λq=>
 BC q (.bool false) n λr=>
 A3 8 d r λs=>
 CV 8 d s r λy=>
 A3 8 d y λl=>
 b (.tuple [l,(.bool f),(.bool true)]) y)
def RF(_c:CF)(k:KV)(_J:Na)(a:U)(b c:Bool)(d:H):Prop:=
 A3 8 a d λf=>
 CV 8 a f d λg=>
 A3 8 a g λh=>
 k (.tuple [h,(.bool b),(.bool c)]) g
def Vv(a:CF)(_k:KV)(J:Na)(b c:U)(d f:Bool)(g:U)(h:Bool)(i:H):Prop:=
 V h
 (oK (Ag b i) λj k=>
 Ac 4 j λl=>
 BC l (.bool true) k λm=>
 J.a2 b c d f g m)
 (a (.func 126) [b] i λn o=>
 ext 0 n λp=>
 Ar .i64 p λq=>
 ext 1 n λr=>
 Ar .i64 r λs=>
 oK (Ag b o) λt u=>
 Ac 1 t λv=>
 Z v u λw=>
 oK (Ag b u) λx y=>
 Ac 2 x λh=>
 Z h y λj=>
 Ar .i64 j λk=>
 oK (Ag b y) λl f=>
 Ac 2 l λm=>
 Z m f λa=>
 Ar .i64 a λi=>
 fI (wrap .i64 (AW i s)) λp=>
 oK (slice3 env f 167 w (some (Bf (.int .i64 k))) (some (Bf (.int .i64 p))) none) λn r=>
 Bz n λo=>
 J.a1 b c d g q s n (vJ o) (vJ 0) r)
def z91:Na:=⟨λ_ _=>False,λ_ _ _ _ _ _ _ _ _ _=>False,λ_ _ _ _ _ _=>False,λ_ _ _ _ _ _ _ _ _ _=>False,λ_ _ _ _=>False,λ_ _ _ _ _ _ _=>False⟩
def Jw(c:CF)(k:KV)(m:Nat):Na:=vP z91 (λ_ J=>⟨Xq c k J,Wp c k J,Xf c k J,WG c k J,RF c k J,Vv c k J⟩) m
def f91(J:Na):Jump:=λa f b=>match a with
 |0=>J.a0 (f 0) b
 |1=>Be (f 3) λc=>Ar .i64 (f 7) λd=>Ar .i64 (f 8) λg=>Ar .i64 (f 87) λh=>Ar .i64 (f 88) λi=>J.a1 (f 0) (f 2) c (f 5) d g (f 86) h i b
 |2=>Be (f 3) λc=>Be (f 4) λj=>J.a2 (f 0) (f 2) c j (f 5) b
 |3=>Be (f 3) λc=>Ar .i64 (f 7) λd=>Ar .i64 (f 8) λg=>Ar .i64 (f 87) λh=>Ar .i64 (f 88) λi=>J.a3 (f 0) (f 2) c (f 5) d g (f 86) h i b
 |4=>Be (f 3) λc=>Be (f 4) λj=>J.a4 (f 2) c j b
 |5=>Be (f 3) λc=>Be (f 4) λj=>Be (f 6) λk=>J.a5 (f 0) (f 2) c j (f 5) k b
 |_=>False
def dv:As:=[(.root,0),((.l (.r (.l (.r (.r (.r (.r (.r (.r (.r (.r (.l (.r .root))))))))))))),1),((.lab (.r .root) 1),2),((.l (.r (.l (.r (.r (.r (.r (.r (.lab (.r .root) 1))))))))),3),((.lab (.r .root) 0),4),((.r (.l (.r (.r (.r (.r (.r (.r (.l (.r .root)))))))))),5)]
def d92:Code:=wz .skip (λc=>c) Tryz.f92.body
def q92:Ak:=[]
def u92:As:=[(.root,0)]
def d93:Code:=wz .skip (λc=>c) Tryz.f93.body
def q93:Ak:=[(1,[0,1,2,3,4,5,6,7,8,9,10,11,12,13]),(2,[0,1,2,3,4,5,6,7,8,9,10])]
structure sS where
 a0:U→U→H→Prop
def RO(a:CF)(b:KV)(_J:sS)(c d:U)(f:H):Prop:=
 EX d λg=>
 Fa (vU 1 (len g))<|
 Hp.Bu f (rowOf 131 g) λh i=>
 oK (Ag c i) λj k=>
 Ac 1 j λl=>
 Z l k λm=>
 Be m λn=>
 AM (λk9=>gate false (Bm n)
 (oK (Ag c k) λo p=>
 Ac 0 o λq=>
 Z q p λr=>
 Ac 0 (.ptr h 0) λs=>
 A3 8 s p λt=>
 a (.func 130) [r,(.int .i64 (vJ 1)),t] p λu v=>
 Be u λw=>
 k9 w v)
 (k9 true k)) λx y=>
 V x
 (oK (Ag c y) λd f=>
 Ac 3 d λg=>
 Z g f λi=>
 A3 9 (.ptr h 0) f λj=>
 oK (AE env 121 (λe l=>Ap 1 [(0,j)] f e l)) λm n=>
 Z g n λo=>
 BE o i<|
 oK (AB env .append [121,121] [i,m] n) λq s=>
 oK (Ag c s) λa p=>
 Ac 3 a λr=>
 BC r q p λt=>
 b (.tuple []) t)
 (b (.tuple []) y)
def z93:sS:=⟨λ_ _ _=>False⟩
def tD(c:CF)(k:KV)(m:Nat):sS:=vP z93 (λ_ J=>⟨RO c k J⟩) m
def f93(J:sS):Jump:=λL f h=>match L with
 |0=>J.a0 (f 0) (f 1) h
 |_=>False
def u93:As:=[(.root,0)]
def d94:Code:=wz .skip (λc=>c) Tryz.f94.body
def q94:Ak:=[(4,[0,1,2,3,4,5,6,7,12,8,9,10,11,13,14,15])]
structure dV where
 a0:U→U→H→Prop
 a1:U→U→H→Prop
def Xx(a:CF)(b:KV)(J:dV)(c d:U)(f:H):Prop:=
 EX d λg=>
 Fa (vU 1 (len g))<|
 Hp.Bu f (rowOf 48 g) λh i=>
 Hp.Bu i Kw λj k=>
 Ac 1 (.ptr h 0) λl=>
 Z l k λm=>
 Bv m λl8 c9=>
 V (CL l8 c9 8 6872287758930173791)
 (oK (Ag c k) λn o=>
 Ac 0 n λp=>
 Z p o λq=>
 oK (Ag q o) λr s=>
 Ac 1 r λt=>
 A3 3 t s λu=>
 A3 8 (.ptr h 0) s λv=>
 Ac 0 (.ptr h 0) λw=>
 a (.func 133) [v] s λx y=>
 Z p y λd=>
 BE d q<|
 A3 3 t y λf=>
 BE f u<|
 Amx 1 x λg=>
 Ar .i64 g λi=>
 a (.func 132) [u,(.int .i64 i)] y λl m=>
 Ar .i64 l λn=>
 a (.func 131) [(.int .i64 n)] m λo r=>
 Bv o λs v=>
 BC w (.int .i64 (vJ 2)) r λp=>
 Ac 1 (.ptr h 0) λd=>
 BC d (.str s v) p λq=>
 J.a1 (.ptr h 0) (.ptr j 0) q)
 (V (CL l8 c9 8 6872287750339845983)
 (oK (Ag c k) λt f=>
 Ac 0 t λx=>
 Z x f λg=>
 oK (Ag g f) λi u=>
 Ac 1 i λy=>
 Ac 0 y λl=>
 Z l u λm=>
 Bv m λn ki=>
 a (.func 134) [(.str n ki)] u λo r=>
 Bv o λw c50=>
 Ac 0 (.ptr h 0) λd=>
 BC d (.int .i64 (vJ 4)) r λp=>
 Ac 1 (.ptr h 0) λs=>
 BC s (.str w c50) p λv=>
 J.a1 (.ptr h 0) (.ptr j 0) v)
 (A3 8 (.ptr h 0) k λq=>
 CV 8 (.ptr j 0) q k λc=>
 A3 8 (.ptr j 0) c λt=>
 b (.tuple [t,(.bool false)]) c))
def mP(_c:CF)(a:KV)(_J:dV)(b c:U)(d:H):Prop:=
 Ac 6 b λf=>
 BC f (.bool true) d λg=>
 A3 8 b g λh=>
 CV 8 c h g λi=>
 A3 8 c i λj=>
 a (.tuple [j,(.bool true)]) i
def z94:dV:=⟨λ_ _ _=>False,λ_ _ _=>False⟩
def qx(c:CF)(k:KV)(m:Nat):dV:=vP z94 (λ_ J=>⟨Xx c k J,mP c k J⟩) m
def f94(J:dV):Jump:=λL f h=>match L with
 |0=>J.a0 (f 0) (f 1) h
 |1=>J.a1 (f 3) (f 4) h
 |_=>False
def u94:As:=[(.root,0),((.r (.r .root)),1)]
def d95:Code:=wz .skip (λc=>c) Tryz.f95.body
def q95:Ak:=[]
structure J95 where
 a0:U→Nat→Nat→H→Prop
def Xk(_c:CF)(a:KV)(_J:J95)(b:U)(c d:Nat)(f:H):Prop:=
 oV (Dh env .eql 96 b .Bn) λg=>
 Be g λh=>
 V h
 (a .Bn f)
 (oK (Ag b f) λi j=>
 Ac 0 i λk=>
 Z k j λl=>
 oK (BO env 143 l (.str c d) false j) λm n=>
 a m n)
def z95:J95:=⟨λ_ _ _ _=>False⟩
def tf(c:CF)(k:KV)(m:Nat):J95:=vP z95 (λ_ J=>⟨Xk c k J⟩) m
def f95(J:J95):Jump:=λa f b=>match a with
 |0=>Bv (f 1) λc d=>J.a0 (f 0) c d b
 |_=>False
def u95:As:=[(.root,0)]
def d96:Code:=wz .skip (λc=>c) Tryz.f96.body
def q96:Ak:=[]
def u96:As:=[(.root,0)]
def d98:Code:=wz .skip (λc=>c) Tryz.f98.body
def q98:Ak:=[(1,[0,1,2,3,4,5,6,7,8,9,10,11,12,13,14,15,16,17,18,19,20,21,22,23]),(2,[0,1,2,3,4,5,8,9,6,7,10,11]),(3,[0,1,3,5,6,7,8,9,10,11,12,13,14,15,16,17,18,2,4,19,20,21,22,23,24]),(4,[0,1,2,3,4,5,6,7,8,9,10,11,12,13,14,15]),(5,[0,1,2,3,4,5,6,7,8,9]),(12,[0,1,2,3,4,5,6,7,8,9,10,11,12,13]),(14,[0,1,2,3,4,5,6,7,8,9,10,11,12,13]),(15,[0,1,2,3,4,5,6,7,8,9,10]),(4294967294,[6,9,10,11]),(4294967295,[167])]
def Bhy:OX:=fE q98 (GZ d98 (.l (.r (.r (.r (.r (.r (.r (.r (.r .root))))))))))
def u98:As:=[(.root,0),((.r (.r (.r (.r .root)))),1)]
def d99:Code:=wz .skip (λc=>c) Tryz.f99.body
def q99:Ak:=[]
def u99:As:=[(.root,0)]
def d100:Code:=wz .skip (λc=>c) Tryz.f100.body
def Abc:Ak:=[]
def mV:As:=[(.root,0),((.l (.l (.l (.r (.l .root))))),1),((.l (.l (.r .root))),2)]
def d102:Code:=wz .skip (λc=>c) Tryz.f102.body
def Abr:Ak:=[]
def Aei:As:=[(.root,0)]
def d103:Code:=wz .skip (λc=>c) Tryz.f103.body
def Ans:Ak:=[]
structure Zu where
 a0:U→H→Prop
def Qz(_c:CF)(a:KV)(_J:Zu)(b:U)(c:H):Prop:=
 oV (Dh env .eql 87 b .Bn) λd=>
 Be d λf=>
 V f
 (a (.int .i64 (vJ 0)) c)
 (oK (Ag b c) λg h=>
 Ac 3 g λi=>
 Z i h λj=>
 Ar .i64 j λk=>
 a (.int .i64 k) h)
def Bgw:Zu:=⟨λ_ _=>False⟩
def aY(c:CF)(k:KV)(m:Nat):Zu:=vP Bgw (λ_ J=>⟨Qz c k J⟩) m
def f103(J:Zu):Jump:=λL f h=>match L with
 |0=>J.a0 (f 0) h
 |_=>False
def Akw:As:=[(.root,0)]
def d104:Code:=wz .skip (λc=>c) Tryz.f104.body
def Aoe:Ak:=[]
structure YI where
 a0:U→H→Prop
def QB(_c:CF)(a:KV)(_J:YI)(b:U)(c:H):Prop:=
 oV (Dh env .eql 87 b .Bn) λd=>
 Be d λf=>
 V f
 (a (.int .i64 (vJ 0)) c)
 (oK (Ag b c) λg h=>
 Ac 4 g λi=>
 Z i h λj=>
 Ar .i64 j λk=>
 a (.int .i64 k) h)
def Bgi:YI:=⟨λ_ _=>False⟩
def ZM(c:CF)(k:KV)(m:Nat):YI:=vP Bgi (λ_ J=>⟨QB c k J⟩) m
def f104(J:YI):Jump:=λL f h=>match L with
 |0=>J.a0 (f 0) h
 |_=>False
def Ann:As:=[(.root,0)]
def d106:Code:=wz .skip (λc=>c) Tryz.f106.body
def Alj:Ak:=[]
structure Zi where
 a0:U→H→Prop
def P8(a:CF)(b:KV)(_J:Zi)(c:U)(d:H):Prop:=
 oK (Ag c d) λf g=>
 Ac 0 f λh=>
 Z h g λi=>
 oV (Dh env .eql 195 i .Bn) λj=>
 Be j λk=>
 V k
 (oK (D4 env g 195 283 c) λl m=>
 a (.func 151) [l] m λn o=>
 oK (D4 env o 283 195 n) λp q=>
 oK (Ag c q) λr s=>
 Ac 0 r λt=>
 BC t p s λu=>
 b (.tuple []) u)
 (oK (Ag c g) λv w=>
 Ac 0 v λx=>
 Z x w λy=>
 oV (Dh env .neq 195 y c) λd=>
 Be d λf=>
 V f
 (False)
 (b (.tuple []) w))
def Bbo:Zi:=⟨λ_ _=>False⟩
def ag(c:CF)(k:KV)(m:Nat):Zi:=vP Bbo (λ_ J=>⟨P8 c k J⟩) m
def f106(J:Zi):Jump:=λL f h=>match L with
 |0=>J.a0 (f 0) h
 |_=>False
def Anv:As:=[(.root,0)]
def d107:Code:=wz .skip (λc=>c) Tryz.f107.body
def Ale:Ak:=[]
structure Zl where
 a0:U→H→Prop
def Nd(_c:CF)(a:KV)(_J:Zl)(b:U)(c:H):Prop:=
 EX b λd=>
 Fa (vU 1 (len d))<|
 Hp.Bu c (rowOf 48 d) λf g=>
 Ac 0 (.ptr f 0) λh=>
 Z h g λi=>
 Ar .i64 i λj=>
 AM (λk7=>gate true (AN j (vJ 5))
 (Ac 1 (.ptr f 0) λk=>
 Z k g λl=>
 Bv l λm n=>
 AM (λOL=>gate false (CL m n 1 35)
 (Ac 1 (.ptr f 0) λo=>
 Z o g λp=>
 Bv p λq r=>
 OL (CL q r 2 14885) g)
 (OL true g)) λs t=>
 k7 s t)
 (k7 false g)) λu v=>
 a (.bool u) v
def Bcj:Zl:=⟨λ_ _=>False⟩
def YV(c:CF)(k:KV)(m:Nat):Zl:=vP Bcj (λ_ J=>⟨Nd c k J⟩) m
def f107(J:Zl):Jump:=λL f h=>match L with
 |0=>J.a0 (f 0) h
 |_=>False
def Aqm:As:=[(.root,0)]
def d108:Code:=wz .skip (λc=>c) Tryz.f108.body
def Aom:Ak:=[]
structure Ze where
 a0:U→Nat→Nat→H→Prop
def Oe(a:CF)(b:KV)(_J:Ze)(c:U)(d f:Nat)(g:H):Prop:=
 one c<|
 Hp.Bu g (rowOf 285 [c]) λh i=>
 Z (.ptr h 0) i λj=>
 oK (Ag j i) λk l=>
 Ac 0 k λm=>
 a (.func 152) [m,(.func (.func 153) [] [(.ptr h 0)])] l λ_ n=>
 Z (.ptr h 0) n λo=>
 oK (Ag o n) λp q=>
 Ac 3 p λr=>
 Z r q λs=>
 oK (BO env 100 s (.str d f) true q) λt u=>
 ext 0 t λv=>
 Ar .i64 v λw=>
 ext 1 t λx=>
 Be x λy=>
 V y
 (b (.int .i64 w) u)
 (b (.int .i64 (vJ 14)) u)
def Bbd:Ze:=⟨λ_ _ _ _=>False⟩
def Y7(c:CF)(k:KV)(m:Nat):Ze:=vP Bbd (λ_ J=>⟨Oe c k J⟩) m
def f108(J:Ze):Jump:=λa f b=>match a with
 |0=>Bv (f 1) λc d=>J.a0 (f 0) c d b
 |_=>False
def Apu:As:=[(.root,0)]
def d109:Code:=wz .skip (λc=>c) Tryz.f109.body
def sY:Ak:=[(2,[0,1,2,3,4,5,6,7,8,9,10,11,12,13,14,15,16,17,18,19,20,21,22,23,24,25,30,26,27,28,29,31,32]),(3,[0,1,2,3,4,5]),(6,[0,1,2,3,4,5,6,7,8]),(8,[0,1,2,3,4,5,6,7,8,9,10,11,12,13,14,15,16]),(10,[0,1,2,3,4,5,6,7,8,9,10,11,12,13,16,17,14,15,18,19])]
def tE:As:=[(.root,0),((.r (.l (.r (.r .root)))),1)]
def d110:Code:=wz .skip (λc=>c) Tryz.f110.body
def mB:Ak:=[(2,[0,1,2,3,4,5,6,7,8])]
def qN:As:=[(.root,0),((.r (.r (.r (.r (.r (.r (.r .root))))))),1),((.r (.r (.r (.r (.r (.r .root)))))),2),((.r (.r (.r (.r .root)))),3)]
def d111:Code:=wz .skip (λc=>c) Tryz.f111.body
def Aoz:Ak:=[(10,[0,1,2,3,4,5,6,7,8]),(13,[0,1,2,3,4,5,6,7,8]),(14,[0,1,2,3,4,5,6,7,8,9,10,11,12,13,14,15,17,18,19,20,16,21,22,23,24,25,26,27]),(16,[0,1,2,3,4,5,6,7,8])]
structure Yo where
 a0:U→Int→H→Prop
def QM(a:CF)(b:KV)(_J:Yo)(c:U)(d:Int)(f:H):Prop:=
 V (AN d (vJ 8))
 (a (.func 157) [c] f λ_ g=>
 b (.tuple []) g)
 (V (AN d (vJ 9))
 (a (.func 158) [c] f λ_ h=>
 b (.tuple []) h)
 (V (AN d (vJ 10))
 (a (.func 159) [c] f λ_ i=>
 b (.tuple []) i)
 (V (AN d (vJ 11))
 (a (.func 160) [c] f λ_ j=>
 b (.tuple []) j)
 (V (AN d (vJ 12))
 (oK (Ag c f) λk l=>
 Ac 0 k λm=>
 Z m l λn=>
 oK (Ag c l) λo p=>
 Ac 10 o λq=>
 A3 3 q p λr=>
 a (.func 63) [n,(.int .i64 (vJ 16)),r] p λ_ s=>
 b (.tuple []) s)
 (V (AN d (vJ 13))
 (oK (Ag c f) λt u=>
 Ac 0 t λv=>
 Z v u λw=>
 oK (Ag w u) λx y=>
 Ac 7 x λg=>
 Z g y λh=>
 a (.func 161) [h,(.int .i64 (vJ 1))] y λi j=>
 Be i λk=>
 V (Bm k)
 (oK (Ag c j) λm l=>
 Ac 0 m λo=>
 Z o l λq=>
 oK (Ag c l) λn p=>
 Ac 10 n λr=>
 A3 3 r p λs=>
 a (.func 162) [q,s] p λ_ t=>
 b (.tuple []) t)
 (oK (Ag c j) λv u=>
 Ac 0 v λw=>
 Z w u λx=>
 oK (Ag c u) λg h=>
 Ac 0 g λy=>
 Z y h λi=>
 oK (Ag i h) λk m=>
 Ac 8 k λo=>
 Ac 0 o λl=>
 Z l m λn=>
 oK (Ag c m) λr p=>
 Ac 13 r λq=>
 Z q p λs=>
 oK (Ag c p) λt j=>
 Ac 10 t λv=>
 A3 3 v j λu=>
 a (.func 163) [s] j λg h=>
 Bv g λk o=>
 Z w h λm=>
 BE m x<|
 Z y h λr=>
 BE r i<|
 Z l h λq=>
 BE q n<|
 A3 3 v h λp=>
 BE p u<|
 oK (AF env (env.ty 48) [(0,(.int .i64 (vJ 7))),(1,(.str k o)),(3,u)] h) λt j=>
 oK (AE env 30 (λe s=>Ap 1 [(0,t)] j e s)) λg m=>
 Z w m λr=>
 BE r x<|
 Z y m λq=>
 BE q i<|
 Z l m λv=>
 BE v n<|
 oK (AB env .append [30,30] [n,g] m) λp h=>
 Z w h λk=>
 BE k x<|
 oK (Ag x h) λo u=>
 Ac 8 o λj=>
 Ac 0 j λs=>
 BC s p u λt=>
 b (.tuple []) t))
 (V (AN d (vJ 14))
 (oK (Ag c f) λr y=>
 Ac 0 r λi=>
 Z i y λq=>
 oK (Ag c y) λl v=>
 Ac 10 l λg=>
 A3 3 g v λm=>
 a (.func 63) [q,(.int .i64 (vJ 3)),m] v λ_ n=>
 b (.tuple []) n)
 (b (.tuple []) f)))))))
def Bec:Yo:=⟨λ_ _ _=>False⟩
def ZC(c:CF)(k:KV)(m:Nat):Yo:=vP Bec (λ_ J=>⟨QM c k J⟩) m
def f111(J:Yo):Jump:=λa f b=>match a with
 |0=>Ar .i64 (f 1) λc=>J.a0 (f 0) c b
 |_=>False
def Amr:As:=[(.root,0)]
def d112:Code:=wz .skip (λc=>c) Tryz.f112.body
def Ace:Ak:=[(4,[0,1,2,3,4,5,6,7,8,9,10,11,12,13,14]),(6,[0,1,2,3,4,5,6,7,8,9,10,11,12,13,14,15,16,17])]
def oD:As:=[(.root,0),((.l (.r .root)),1),((.l (.r (.l (.l (.r (.l (.l (.r .root)))))))),2)]
def d122:Code:=wz .skip (λc=>c) Tryz.f122.body
def Abe:Ak:=[]
def uO:As:=[(.root,0),((.r (.r (.r (.r .root)))),1),((.r (.r (.r .root))),2),((.r (.r .root)),3)]
def d123:Code:=wz .skip (λc=>c) Tryz.f123.body
def qC:Ak:=[]
structure TP where
 a0:Nat→Nat→Int→H→Prop
 a1:Nat→Nat→Int→U→H→Prop
def Qa(a:CF)(b:KV)(J:TP)(c d:Nat)(f:Int)(g:H):Prop:=
 Hp.Bu g Kg λh i=>
 Bo f λj=>
 Lk c d j c λk l=>
 a (.func 170) [(.str k l),(.str 2 16191)] i λm n=>
 Be m λo=>
 AM (λk9=>gate true o
 (fI (wrap .i64 (AW f (vJ 2))) λp=>
 k9 (Ba p (vJ c)) n)
 (k9 false n)) λq r=>
 V q
 (fI (wrap .i64 (AW f (vJ 2))) λs=>
 Bo s λt=>
 FG c d t λu=>
 a (.func 171) [(.int .u8 (vJ u))] r λv w=>
 ext 0 v λx=>
 Ar .u8 x λy=>
 ext 1 v λg=>
 Be g λj=>
 V j
 (fI (wrap .i64 (AW f (vJ 3))) λi=>
 oK (AF env (env.ty 172) [(0,(.int .u8 y)),(1,(.int .i64 f)),(2,(.int .i64 i))] w) λk l=>
 CV 3 (.ptr h 0) k l λm=>
 A3 3 (.ptr h 0) m λo=>
 b o m)
 (J.a1 c d f (.ptr h 0) w))
 (J.a1 c d f (.ptr h 0) r)
def Qf(_c:CF)(a:KV)(_J:TP)(b c:Nat)(d:Int)(f:U)(g:H):Prop:=
 Bo d λh=>
 FG b c h λi=>
 fI (wrap .i64 (AW d (vJ 1))) λj=>
 oK (AF env (env.ty 172) [(0,(.int .u8 (vJ i))),(1,(.int .i64 d)),(2,(.int .i64 j))] g) λk l=>
 CV 3 f k l λm=>
 A3 3 f m λn=>
 a n m
def Aze:TP:=⟨λ_ _ _ _=>False,λ_ _ _ _ _=>False⟩
def PJ(c:CF)(k:KV)(m:Nat):TP:=vP Aze (λ_ J=>⟨Qa c k J,Qf c k J⟩) m
def f123(J:TP):Jump:=λa f b=>match a with
 |0=>Bv (f 0) λc d=>Ar .i64 (f 1) λg=>J.a0 c d g b
 |1=>Bv (f 0) λc d=>Ar .i64 (f 1) λg=>J.a1 c d g (f 4) b
 |_=>False
def pz:As:=[(.root,0),((.r (.r .root)),1)]
def d124:Code:=wz .skip (λc=>c) Tryz.f124.body
def Ank:Ak:=[]
structure aW where
 a0:Int→H→Prop
def Qo(_c:CF)(a:KV)(_J:aW)(b:Int)(c:H):Prop:=
 AM (λk1=>gate false (AN b (vJ 32))
 (AM (λk4=>gate true (CJ (vJ 9) b)
 (k4 (CJ b (vJ 13)) c)
 (k4 false c)) λd f=>
 AM (λk7=>gate true d
 (k7 (Bm (AN b (vJ 10))) f)
 (k7 false f)) λg h=>
 k1 g h)
 (k1 true c)) λi j=>
 a (.bool i) j
def Bdu:aW:=⟨λ_ _=>False⟩
def bw(c:CF)(k:KV)(m:Nat):aW:=vP Bdu (λ_ J=>⟨Qo c k J⟩) m
def f124(J:aW):Jump:=λa f b=>match a with
 |0=>Ar .u8 (f 0) λc=>J.a0 c b
 |_=>False
def Apx:As:=[(.root,0)]
def d125:Code:=wz .skip (λc=>c) Tryz.f125.body
def iK:Ak:=[(3,[0,1,2,3,4,5,6,7,8,9,10,11,12,13,14,15,16,17,18,19,20,21,22,23]),(9,[0,1,2,3,4,5,6,7,8,9]),(14,[0,1,2,3,4,5,6,7,8,9,10,11,12,13,14,15])]
structure NW where
 a0:U→H→Prop
 a1:U→H→Prop
 a2:U→Int→H→Prop
def QR(a:CF)(b:KV)(J:NW)(c:U)(d:H):Prop:=
 oK (Ag c d) λf g=>
 Ac 2 f λh=>
 Z h g λi=>
 Ar .i64 i λj=>
 a (.func 172) [c,(.str 2 12079)] g λk l=>
 Be k λm=>
 V m
 (J.a1 c l)
 (a (.func 172) [c,(.str 2 10799)] l λn o=>
 Be n λp=>
 V (Bm p)
 (b (.tuple [(.bool false),(.bool false)]) o)
 (oK (Ag c o) λq r=>
 Ac 2 q λs=>
 Z s r λt=>
 Ar .i64 t λu=>
 fI (wrap .i64 (AW u (vJ 2))) λv=>
 oK (Ag c r) λw x=>
 Ac 2 w λy=>
 BC y (.int .i64 v) x λd=>
 J.a2 c j d))
def QY(_c:CF)(a:KV)(J:NW)(b:U)(c:H):Prop:=
 oK (Ag b c) λd f=>
 Ac 2 d λg=>
 Z g f λh=>
 Ar .i64 h λi=>
 oK (Ag b f) λj k=>
 Ac 1 j λl=>
 Z l k λm=>
 Bz m λn=>
 AM (λk32=>gate true (Ba i (vJ n))
 (oK (Ag b k) λo p=>
 Ac 1 o λq=>
 Z q p λr=>
 oK (Ag b p) λs t=>
 Ac 2 s λu=>
 Z u t λv=>
 Ar .i64 v λw=>
 Bo w λx=>
 A7 3 x r λy=>
 Ac 0 y λc=>
 Z c t λd=>
 Ar .u8 d λg=>
 k32 (Bm (AN g (vJ 10))) t)
 (k32 false k)) λh f=>
 V h
 (oK (Ag b f) λj l=>
 Ac 2 j λm=>
 Z m l λi=>
 Ar .i64 i λn=>
 fI (wrap .i64 (AW n (vJ 1))) λo=>
 oK (Ag b l) λq p=>
 Ac 2 q λs=>
 BC s (.int .i64 o) p λu=>
 J.a1 b u)
 (a (.tuple [(.bool true),(.bool false)]) f)
def QS(a:CF)(b:KV)(J:NW)(c:U)(d:Int)(f:H):Prop:=
 oK (Ag c f) λg h=>
 Ac 2 g λi=>
 Z i h λj=>
 Ar .i64 j λk=>
 oK (Ag c h) λl m=>
 Ac 1 l λn=>
 Z n m λo=>
 Bz o λp=>
 V (Ba k (vJ p))
 (a (.func 172) [c,(.str 2 12074)] m λq r=>
 Be q λs=>
 V s
 (oK (Ag c r) λt u=>
 Ac 2 t λv=>
 Z v u λw=>
 Ar .i64 w λx=>
 fI (wrap .i64 (AW x (vJ 2))) λy=>
 oK (Ag c u) λf g=>
 Ac 2 f λi=>
 BC i (.int .i64 y) g λj=>
 b (.tuple [(.bool true),(.bool false)]) j)
 (oK (Ag c r) λh l=>
 Ac 2 h λn=>
 Z n l λo=>
 Ar .i64 o λk=>
 fI (wrap .i64 (AW k (vJ 1))) λp=>
 oK (Ag c l) λq s=>
 Ac 2 q λt=>
 BC t (.int .i64 p) s λv=>
 J.a2 c d v))
 (oK (Ag c m) λw x=>
 Ac 3 w λu=>
 Z u x λf=>
 fI (wrap .i64 (AW d (vJ 2))) λg=>
 a (.func 128) [c,(.int .i64 d),(.int .i64 g)] x λi y=>
 Z u y λj=>
 BE j f<|
 oK (AF env (env.ty 52) [(0,(.int .i64 (vJ 1))),(1,i)] y) λr h=>
 oK (AE env 31 (λe n=>Ap 1 [(0,r)] h e n)) λo k=>
 Z u k λl=>
 BE l f<|
 oK (AB env .append [31,31] [f,o] k) λq p=>
 oK (Ag c p) λs t=>
 Ac 3 s λv=>
 BC v q t λm=>
 b (.tuple [(.bool true),(.bool true)]) m)
def Azc:NW:=⟨λ_ _=>False,λ_ _=>False,λ_ _ _=>False⟩
def KO(c:CF)(k:KV)(m:Nat):NW:=vP Azc (λ_ J=>⟨QR c k J,QY c k J,QS c k J⟩) m
def f125(J:NW):Jump:=λa f b=>match a with
 |0=>J.a0 (f 0) b
 |1=>J.a1 (f 0) b
 |2=>Ar .i64 (f 4) λc=>J.a2 (f 0) c b
 |_=>False
def iV:As:=[(.root,0),((.l (.l (.l (.r (.l (.l (.r (.r .root)))))))),1),((.l (.r (.l (.r (.r (.r .root)))))),2)]
def d126:Code:=wz .skip (λc=>c) Tryz.f126.body
def oq:Ak:=[]
structure SE where
 a0:U→H→Prop
 a1:U→Int→H→Prop
def QK(a:CF)(b:KV)(J:SE)(c:U)(d:H):Prop:=
 a (.func 173) [c] d λf g=>
 ext 0 f λh=>
 Ar .i64 h λi=>
 ext 1 f λj=>
 Ar .i64 j λk=>
 V (Ba (vJ 0) k)
 (b (.tuple [(.int .i64 i),(.int .i64 k)]) g)
 (a (.func 175) [c,(.int .i64 (vJ 0))] g λl m=>
 Ar .u8 l λn=>
 a (.func 174) [(.int .u8 n)] m λo p=>
 Be o λq=>
 V q
 (J.a1 c (vJ 1) p)
 (a (.func 177) [c] p λr s=>
 Ar .i64 r λt=>
 V (Ba (vJ 0) t)
 (b (.tuple [(.int .i64 (vJ 2)),(.int .i64 t)]) s)
 (a (.func 178) [c] s λu v=>
 Ar .i64 u λw=>
 V (Ba (vJ 0) w)
 (b (.tuple [(.int .i64 (vJ 5)),(.int .i64 w)]) v)
 (b (.tuple [(.int .i64 (vJ 6)),(.int .i64 (vJ 1))]) v))))
def Qs(a:CF)(b:KV)(J:SE)(c:U)(d:Int)(f:H):Prop:=
 a (.func 175) [c,(.int .i64 d)] f λg h=>
 Ar .u8 g λi=>
 a (.func 174) [(.int .u8 i)] h λj k=>
 Be j λl=>
 AM (λee=>gate false l
 (a (.func 175) [c,(.int .i64 d)] k λm n=>
 Ar .u8 m λo=>
 a (.func 176) [(.int .u8 o)] n λp q=>
 Be p λr=>
 ee r q)
 (ee true k)) λs t=>
 V s
 (fI (wrap .i64 (AW d (vJ 1))) λu=>
 J.a1 c u t)
 (b (.tuple [(.int .i64 (vJ 1)),(.int .i64 d)]) t)
def Bbn:SE:=⟨λ_ _=>False,λ_ _ _=>False⟩
def Py(c:CF)(k:KV)(m:Nat):SE:=vP Bbn (λ_ J=>⟨QK c k J,Qs c k J⟩) m
def f126(J:SE):Jump:=λa f b=>match a with
 |0=>J.a0 (f 0) b
 |1=>Ar .i64 (f 3) λc=>J.a1 (f 0) c b
 |_=>False
def mD:As:=[(.root,0),((.l (.r (.l (.l (.r (.l (.r (.r .root)))))))),1)]
def d127:Code:=wz .skip (λc=>c) Tryz.f127.body
def Aqi:Ak:=[]
structure Z1 where
 a0:U→Int→H→Prop
def Q4(a:CF)(b:KV)(_J:Z1)(c:U)(d:Int)(f:H):Prop:=
 a (.func 106) [c] f λ_ g=>
 oK (Ag c g) λh i=>
 Ac 1 h λj=>
 Z j i λk=>
 oK (AE env 79 (λe l=>Ap 1 [(0,(.int .u8 d))] i e l)) λm n=>
 oK (AB env .append [79,79] [k,m] n) λo p=>
 oK (Ag c p) λq r=>
 Ac 1 q λs=>
 BC s o r λt=>
 b .FC t
def Bbi:Z1:=⟨λ_ _ _=>False⟩
def YF(c:CF)(k:KV)(m:Nat):Z1:=vP Bbi (λ_ J=>⟨Q4 c k J⟩) m
def f127(J:Z1):Jump:=λa f b=>match a with
 |0=>Ar .u8 (f 1) λc=>J.a0 (f 0) c b
 |_=>False
def Apz:As:=[(.root,0)]
def d128:Code:=wz .skip (λc=>c) Tryz.f128.body
def Apm:Ak:=[(1,[0,1,2,3,4,5,6,7,8,9,10,11,12,13,14,15,16,17,18,19,20,21,22])]
structure ZO where
 a0:U→Int→Int→H→Prop
def P0(_c:CF)(a:KV)(_J:ZO)(b:U)(c d:Int)(f:H):Prop:=
 Hp.Bu f Mz λg h=>
 oK (Ag b h) λi j=>
 Ac 0 i λk=>
 Z k j λl=>
 Bv l λm c8=>
 oK (Ag b j) λn o=>
 Ac 1 n λp=>
 Z p o λq=>
 Bo c λr=>
 A7 3 r q λs=>
 Ac 1 s λt=>
 Z t o λu=>
 Ar .i64 u λv=>
 oK (Ag b o) λw x=>
 Ac 1 w λy=>
 Z y x λf=>
 fI (wrap .i64 (EU d (vJ 1))) λh=>
 Bo h λi=>
 A7 3 i f λk=>
 Ac 2 k λl=>
 Z l x λj=>
 Ar .i64 j λn=>
 oK (AF env (env.ty 45) [(0,(.str m c8)),(1,(.int .i64 v)),(2,(.int .i64 n))] x) λp c=>
 CV 3 (.ptr g 0) p c λq=>
 A3 3 (.ptr g 0) q λr=>
 a r q
def Bda:ZO:=⟨λ_ _ _ _=>False⟩
def ak(c:CF)(k:KV)(m:Nat):ZO:=vP Bda (λ_ J=>⟨P0 c k J⟩) m
def f128(J:ZO):Jump:=λa f b=>match a with
 |0=>Ar .i64 (f 1) λc=>Ar .i64 (f 2) λd=>J.a0 (f 0) c d b
 |_=>False
def Anm:As:=[(.root,0)]
def d129:Code:=wz .skip (λc=>c) Tryz.f129.body
def Aeq:Ak:=[]
def pI:As:=[(.root,0),((.l (.l (.r (.r (.r .root))))),1)]
def d130:Code:=wz .skip (λc=>c) Tryz.f130.body
def pE:Ak:=[]
structure SM where
 a0:U→Int→U→H→Prop
 a1:U→H→Prop
def NF(a:CF)(_k:KV)(J:SM)(b:U)(c:Int)(d:U)(f:H):Prop:=
 EX d λg=>
 Fa (vU 1 (len g))<|
 Hp.Bu f (rowOf 48 g) λh i=>
 oK (Ag b i) λj k=>
 Ac 4 j λl=>
 Z l k λm=>
 a (.func 161) [m,(.int .i64 c)] k λn o=>
 Be n λp=>
 V (Bm p)
 (A3 8 (.ptr h 0) o λq=>
 a (.func 133) [q] o λr s=>
 a (.func 137) [b,(.int .i64 (vJ 18)),r] s λ_ t=>
 oK (Ag b t) λu v=>
 Ac 7 u λw=>
 BC w (.bool true) v λx=>
 J.a1 b x)
 (J.a1 b o)
def ND(_c:CF)(a:KV)(_J:SM)(b:U)(c:H):Prop:=
 oK (Ag b c) λd f=>
 Ac 7 d λg=>
 Z g f λh=>
 Be h λi=>
 a (.bool (Bm i)) f
def Bbv:SM:=⟨λ_ _ _ _=>False,λ_ _=>False⟩
def SO(c:CF)(k:KV)(m:Nat):SM:=vP Bbv (λ_ J=>⟨NF c k J,ND c k J⟩) m
def f130(J:SM):Jump:=λa f b=>match a with
 |0=>Ar .i64 (f 1) λc=>J.a0 (f 0) c (f 2) b
 |1=>J.a1 (f 0) b
 |_=>False
def od:As:=[(.root,0),((.r (.r .root)),1)]
def d133:Code:=wz .skip (λc=>c) Tryz.f133.body
def Aog:Ak:=[]
structure aq where
 a0:U→H→Prop
def Qb(_c:CF)(a:KV)(_J:aq)(b:U)(c:H):Prop:=
 EX b λd=>
 Fa (vU 1 (len d))<|
 Hp.Bu c (rowOf 48 d) λf g=>
 Hp.Bu g Mz λh i=>
 Ac 7 (.ptr f 0) λj=>
 Z j i λk=>
 Bz k λl=>
 V (Ba (vJ 0) (vJ l))
 (Ac 7 (.ptr f 0) λm=>
 Z m i λn=>
 fI (wrap .i64 (EU (vJ l) (vJ 1))) λo=>
 Bo o λp=>
 A7 5 p n λq=>
 Ac 1 q λr=>
 A3 3 r i λs=>
 CV 3 (.ptr h 0) s i λt=>
 A3 3 (.ptr h 0) t λu=>
 a u t)
 (Ac 3 (.ptr f 0) λv=>
 A3 3 v i λw=>
 CV 3 (.ptr h 0) w i λx=>
 A3 3 (.ptr h 0) x λy=>
 a y x)
def Axy:aq:=⟨λ_ _=>False⟩
def Y9(c:CF)(k:KV)(m:Nat):aq:=vP Axy (λ_ J=>⟨Qb c k J⟩) m
def f133(J:aq):Jump:=λL f h=>match L with
 |0=>J.a0 (f 0) h
 |_=>False
def Apt:As:=[(.root,0)]
def d137:Code:=wz .skip (λc=>c) Tryz.f137.body
def Apd:Ak:=[(1,[0,1,2,3,4,5,6,7,8,9,10,11,12])]
structure aE where
 a0:U→Int→U→H→Prop
def QN(_c:CF)(a:KV)(_J:aE)(b:U)(c:Int)(d:U)(f:H):Prop:=
 EX d λg=>
 Fa (vU 1 (len g))<|
 Hp.Bu f (rowOf 45 g) λh i=>
 oK (Ag b i) λj k=>
 Ac 6 j λl=>
 Z l k λm=>
 A3 3 (.ptr h 0) k λn=>
 oK (AF env (env.ty 52) [(0,(.int .i64 c)),(1,n)] k) λo p=>
 oK (AE env 31 (λe q=>Ap 1 [(0,o)] p e q)) λr s=>
 Z l s λt=>
 BE t m<|
 oK (AB env .append [31,31] [m,r] s) λu v=>
 oK (Ag b v) λw x=>
 Ac 6 w λy=>
 BC y u x λd=>
 a (.tuple []) d
def Bdt:aE:=⟨λ_ _ _ _=>False⟩
def aS(c:CF)(k:KV)(m:Nat):aE:=vP Bdt (λ_ J=>⟨QN c k J⟩) m
def f137(J:aE):Jump:=λa f b=>match a with
 |0=>Ar .i64 (f 1) λc=>J.a0 (f 0) c (f 2) b
 |_=>False
def Apj:As:=[(.root,0)]
def d143:Code:=wz .skip (λc=>c) Tryz.f143.body
def Acu:Ak:=[]
def oH:As:=[(.root,0),((.l (.r (.l (.r (.r .root))))),1),((.l (.r (.l (.r (.r (.r (.l (.l (.r (.r (.l (.l (.r (.l (.r (.r .root)))))))))))))))),2)]
def d144:Code:=wz .skip (λc=>c) Tryz.f144.body
def tW:Ak:=[]
def tU:As:=[(.root,0),((.l (.r (.l (.r .root)))),1),((.l (.r (.l (.r (.r (.l (.l (.r (.r (.l (.l (.r (.l (.r .root)))))))))))))),2)]
def d145:Code:=wz .skip (λc=>c) Tryz.f145.body
def tV:Ak:=[(13,[0,1,2,3,4,5,6,7,8,9,10,11,12,13])]
def Aau:As:=[(.root,0),((.l (.r (.l (.r (.r (.r (.r .root))))))),1)]
def d146:Code:=wz .skip (λc=>c) Tryz.f146.body
def qX:Ak:=[]
def Aci:As:=[(.root,0)]
def d147:Code:=wz .skip (λc=>c) Tryz.f147.body
def mh:Ak:=[]
def lO:As:=[(.root,0),((.l (.r (.l (.r (.r .root))))),1),((.l (.r (.l (.r (.r (.r (.r .root))))))),2)]
def d148:Code:=wz .skip (λc=>c) Tryz.f148.body
def pY:Ak:=[(6,[0,1,2,3,4,5,6,7,8,9]),(11,[0,1,2,3,4,5,6,7,8,9])]
def pQ:As:=[(.root,0),((.l (.r (.l (.r (.r .root))))),1),((.l (.r (.l (.r (.l (.r (.l (.l (.r (.l (.l (.r (.l (.r (.r .root))))))))))))))),2),((.r (.r (.l (.l (.r (.l (.r (.l (.r (.l (.l (.r (.l (.l (.r (.l (.r (.r .root)))))))))))))))))),3)]
def d150:Code:=wz .skip (λc=>c) Tryz.f150.body
def qY:Ak:=[]
def uf:As:=[(.root,0),((.l (.l (.r (.r (.r (.r (.r (.r (.r (.r .root)))))))))),1),((.r (.l (.r (.l (.l (.l (.r (.r (.r (.r (.r (.r (.r (.r .root)))))))))))))),2)]
def d152:Code:=wz .skip (λc=>c) Tryz.f152.body
def Alb:Ak:=[]
structure Zw where
 a0:U→U→H→Prop
def Qv(a:CF)(b:KV)(_J:Zw)(c d:U)(f:H):Prop:=
 oK (Ag c f) λg h=>
 Ac 0 g λi=>
 a (.func 198) [i] h λj k=>
 Be j λl=>
 V (Bm l)
 (a (.func 199) [c,d] k λ_ m=>
 b (.tuple []) m)
 (b (.tuple []) k)
def Bbt:Zw:=⟨λ_ _ _=>False⟩
def Zy(c:CF)(k:KV)(m:Nat):Zw:=vP Bbt (λ_ J=>⟨Qv c k J⟩) m
def f152(J:Zw):Jump:=λL f h=>match L with
 |0=>J.a0 (f 0) (f 1) h
 |_=>False
def Aoc:As:=[(.root,0)]
def d153:Code:=wz .skip (λc=>c) Tryz.f153.body
def sB:Ak:=[]
def uQ:As:=[(.root,0),((.l (.r (.r .root))),1)]
def d154:Code:=wz .skip (λc=>c) Tryz.f154.body
def uP:Ak:=[]
def sH:As:=[(.root,0)]
def d155:Code:=wz .skip (λc=>c) Tryz.f155.body
def oG:Ak:=[(5,[0,1,2]),(10,[0,1,2]),(14,[0,1,2,3,4,5,6,7,8])]
def td:As:=[(.root,0),((.r (.r (.r (.r (.r (.r (.r (.r (.r (.r .root)))))))))),1),((.r (.l (.r (.r (.r (.r (.r (.r (.r (.r (.r .root))))))))))),2)]
def d156:Code:=wz .skip (λc=>c) Tryz.f156.body
def ux:Ak:=[(1,[0,1,2,3,4,5,6,7,8])]
def Adk:As:=[(.root,0)]
def d157:Code:=wz .skip (λc=>c) Tryz.f157.body
def ua:Ak:=[(5,[0,1,2,3,4,5,6,7,8]),(6,[0,1,2,3,4,5,6,7,8,9,10,11,12,13,14,15,16,17,18,19,20]),(9,[0,1,2,3,4,5,6,7,8]),(10,[0,1,2,3,4,5,6,7,8,9,10,11,12,13,14,15,16,17,18,19,20,21,22,23,24,25,26,27]),(11,[0,1,2,3,4,5,6,7,8])]
def Adc:As:=[(.root,0),((.r (.r .root)),1),((.r (.r (.r (.l (.r (.r (.r (.r (.r .root))))))))),2)]
def d158:Code:=wz .skip (λc=>c) Tryz.f158.body
def uh:Ak:=[(6,[0,1,2,3,4,5,6,7,8]),(8,[0,1,2,3,4,5,6,7,8,9,10,11,12,13,14]),(9,[0,1,2,3,4,5,6])]
def mR:As:=[(.root,0),((.l (.r (.l (.r .root)))),1),((.r (.r (.l (.l (.r (.r (.l (.l (.r (.l (.r .root))))))))))),2)]
def d161:Code:=wz .skip (λc=>c) Tryz.f161.body
def qJ:Ak:=[]
structure TK where
 a0:U→Int→H→Prop
 a1:U→Int→H→Prop
def N7(_c:CF)(a:KV)(J:TK)(b:U)(c:Int)(d:H):Prop:=
 oV (Dh env .eql 98 b .Bn) λf=>
 Be f λg=>
 AM (λk3=>gate false g
 (k3 (Ba c (vJ 0)) d)
 (k3 true d)) λh i=>
 V h
 (a (.bool false) i)
 (J.a1 b c i)
def NT(a:CF)(b:KV)(J:TK)(c:U)(d:Int)(f:H):Prop:=
 oK (Ag c f) λg h=>
 Ac 0 g λi=>
 a (.func 211) [i] h λj k=>
 Ar .i64 j λl=>
 fI (wrap .i64 (EU l d)) λm=>
 oK (AB env .max [2,2] [(.int .i64 m),(.int .i64 (vJ 0))] k) λn o=>
 Ar .i64 n λp=>
 oK (Ag c o) λq r=>
 Ac 0 q λs=>
 a (.func 212) [s,(.int .i64 l),(.int .i64 p)] r λt u=>
 Be t λv=>
 V v
 (b (.bool (CJ d l)) u)
 (J.a1 c d u)
def Bct:TK:=⟨λ_ _ _=>False,λ_ _ _=>False⟩
def RM(c:CF)(k:KV)(m:Nat):TK:=vP Bct (λ_ J=>⟨N7 c k J,NT c k J⟩) m
def f161(J:TK):Jump:=λa f b=>match a with
 |0=>Ar .i64 (f 1) λc=>J.a0 (f 0) c b
 |1=>Ar .i64 (f 1) λc=>J.a1 (f 0) c b
 |_=>False
def mi:As:=[(.root,0),((.l (.r (.r .root))),1)]
def d162:Code:=wz .skip (λc=>c) Tryz.f162.body
def Aov:Ak:=[]
structure ZG where
 a0:U→U→H→Prop
def Qk(a:CF)(b:KV)(_J:ZG)(c d:U)(f:H):Prop:=
 EX d λg=>
 Fa (vU 1 (len g))<|
 Hp.Bu f (rowOf 45 g) λh i=>
 A3 3 (.ptr h 0) i λj=>
 a (.func 63) [c,(.int .i64 (vJ 18)),j] i λ_ k=>
 oK (Ag c k) λl m=>
 Ac 8 l λn=>
 Ac 4 n λo=>
 BC o (.bool true) m λp=>
 b (.tuple []) p
def Beb:ZG:=⟨λ_ _ _=>False⟩
def Z9(c:CF)(k:KV)(m:Nat):ZG:=vP Beb (λ_ J=>⟨Qk c k J⟩) m
def f162(J:ZG):Jump:=λL f h=>match L with
 |0=>J.a0 (f 0) (f 1) h
 |_=>False
def Ano:As:=[(.root,0)]
def d163:Code:=wz .skip (λc=>c) Tryz.f163.body
def gR:Ak:=[]
structure N5 where
 a0:U→H→Prop
 a1:U→U→Int→Int→H→Prop
 a2:U→U→U→Int→Int→H→Prop
def Ql(_c:CF)(_k:KV)(J:N5)(a:U)(b:H):Prop:=
 Hp.Bu b Is λc d=>
 Bz a λf=>
 J.a1 (.ptr c 0) a (vJ f) (vJ 0) d
def NN(a:CF)(b:KV)(J:N5)(c d:U)(f g:Int)(h:H):Prop:=
 V (Ba g f)
 (Bo g λi=>
 A7 8 i d λj=>
 A3 8 j h λk=>
 Hp.Bu h Kw λl m=>
 CV 8 (.ptr l 0) k m λn=>
 AM (λOB=>gate true (Ba (vJ 0) g)
 (Ac 2 (.ptr l 0) λo=>
 Z o n λp=>
 Be p λq=>
 OB q n)
 (OB false n)) λr s=>
 V r
 (a (.func 127) [c,(.int .u8 (vJ 32))] s λ_ t=>
 J.a2 c (.ptr l 0) d f g t)
 (J.a2 c (.ptr l 0) d f g s))
 (a (.func 82) [c] h λu v=>
 Bv u λw c21=>
 b (.str w c21) v)
def QD(a:CF)(_k:KV)(J:N5)(b c d:U)(f g:Int)(h:H):Prop:=
 Ac 1 c λi=>
 Z i h λj=>
 Bv j λk l=>
 a (.func 81) [b,(.str k l)] h λ_ m=>
 fI (wrap .i64 (AW g (vJ 1))) λn=>
 J.a1 b d f n m
def Ayv:N5:=⟨λ_ _=>False,λ_ _ _ _ _=>False,λ_ _ _ _ _ _=>False⟩
def Ll(c:CF)(k:KV)(m:Nat):N5:=vP Ayv (λ_ J=>⟨Ql c k J,NN c k J,QD c k J⟩) m
def f163(J:N5):Jump:=λa f b=>match a with
 |0=>J.a0 (f 0) b
 |1=>Ar .i64 (f 7) λc=>Ar .i64 (f 8) λd=>J.a1 (f 3) (f 6) c d b
 |2=>Ar .i64 (f 7) λc=>Ar .i64 (f 8) λd=>J.a2 (f 3) (f 5) (f 6) c d b
 |_=>False
def fJ:As:=[(.root,0),((.l (.r (.l (.r (.r .root))))),1),((.r (.r (.l (.l (.r (.r (.l (.l (.r (.l (.r (.r .root)))))))))))),2)]
def d170:Code:=wz .skip (λc=>c) Tryz.f170.body
def Alk:Ak:=[]
structure Yn where
 a0:Nat→Nat→Nat→Nat→H→Prop
def Wi(a:CF)(b:KV)(_J:Yn)(c d:Nat)(f g:Nat)(h:H):Prop:=
 a (.func 214) [(.str c d),(.str f g)] h λi j=>
 Be i λk=>
 b (.bool k) j
def Bcn:Yn:=⟨λ_ _ _ _ _=>False⟩
def YE(c:CF)(k:KV)(m:Nat):Yn:=vP Bcn (λ_ J=>⟨Wi c k J⟩) m
def f170(J:Yn):Jump:=λa f b=>match a with
 |0=>Bv (f 0) λc d=>Bv (f 1) λg h=>J.a0 c d g h b
 |_=>False
def Amz:As:=[(.root,0)]
def d171:Code:=wz .skip (λc=>c) Tryz.f171.body
def Alr:Ak:=[]
structure Zs where
 a0:Int→H→Prop
def P3(a:CF)(b:KV)(_J:Zs)(c:Int)(d:H):Prop:=
 a (.func 215) [(.str 9 834587979106535026493),(.int .u8 c)] d λf g=>
 Ar .i64 f λh=>
 V (Ba h (vJ 0))
 (b (.tuple [(.int .u8 (vJ 0)),(.bool false)]) g)
 (Bo h λi=>
 FG 9 2333331710704686619683 i λj=>
 b (.tuple [(.int .u8 (vJ j)),(.bool true)]) g)
def Bgh:Zs:=⟨λ_ _=>False⟩
def Zd(c:CF)(k:KV)(m:Nat):Zs:=vP Bgh (λ_ J=>⟨P3 c k J⟩) m
def f171(J:Zs):Jump:=λa f b=>match a with
 |0=>Ar .u8 (f 0) λc=>J.a0 c b
 |_=>False
def Aow:As:=[(.root,0)]
def d172:Code:=wz .skip (λc=>c) Tryz.f172.body
def pJ:Ak:=[(1,[0,1,2,3,4,5,6,7,8,9,10,11,12]),(6,[0,1,2,3,4,5,6,7,8,9,10,11,12,13,14,15,16])]
structure Ts where
 a0:U→Nat→Nat→H→Prop
 a1:U→Nat→Nat→Int→Int→H→Prop
def P1(_c:CF)(a:KV)(J:Ts)(b:U)(c d:Nat)(f:H):Prop:=
 oK (Ag b f) λg h=>
 Ac 2 g λi=>
 Z i h λj=>
 Ar .i64 j λk=>
 fI (wrap .i64 (AW k (vJ c))) λl=>
 oK (Ag b h) λm n=>
 Ac 1 m λo=>
 Z o n λp=>
 Bz p λq=>
 V (Ba (vJ q) l)
 (a (.bool false) n)
 (J.a1 b c d (vJ c) (vJ 0) n)
def Qm(_c:CF)(a:KV)(J:Ts)(b:U)(c d:Nat)(f g:Int)(h:H):Prop:=
 V (Ba g f)
 (oK (Ag b h) λi j=>
 Ac 1 i λk=>
 Z k j λl=>
 oK (Ag b j) λm n=>
 Ac 2 m λo=>
 Z o n λp=>
 Ar .i64 p λq=>
 fI (wrap .i64 (AW q g)) λr=>
 Bo r λs=>
 A7 3 s l λt=>
 Ac 0 t λu=>
 Z u n λv=>
 Ar .u8 v λw=>
 Bo g λx=>
 FG c d x λy=>
 V (Bm (AN w (vJ y)))
 (a (.bool false) n)
 (fI (wrap .i64 (AW g (vJ 1))) λi=>
 J.a1 b c d f i n))
 (a (.bool true) h)
def Azw:Ts:=⟨λ_ _ _ _=>False,λ_ _ _ _ _ _=>False⟩
def Px(c:CF)(k:KV)(m:Nat):Ts:=vP Azw (λ_ J=>⟨P1 c k J,Qm c k J⟩) m
def f172(J:Ts):Jump:=λa f b=>match a with
 |0=>Bv (f 1) λc d=>J.a0 (f 0) c d b
 |1=>Bv (f 1) λc d=>Ar .i64 (f 20) λg=>Ar .i64 (f 21) λh=>J.a1 (f 0) c d g h b
 |_=>False
def uF:As:=[(.root,0),((.l (.r (.l (.r (.r .root))))),1)]
def d173:Code:=wz .skip (λc=>c) Tryz.f173.body
def oP:Ak:=[(12,[0,1,2,3,4,5,6,7,8,9,10,11,12,13,14,15])]
structure To where
 a0:U→H→Prop
 a1:Int→Int→H→Prop
def PZ(a:CF)(b:KV)(J:To)(c:U)(d:H):Prop:=
 a (.func 216) [c] d λf g=>
 Ar .i64 f λh=>
 V (Ba h (vJ 0))
 (b (.tuple [(.int .i64 (vJ 0)),(.int .i64 (vJ 0))]) g)
 (a (.func 217) [c,(.int .i64 h)] g λi j=>
 Ar .i64 i λk=>
 V (Ba (vJ 0) k)
 (a (.func 175) [c,(.int .i64 h)] j λl m=>
 Ar .u8 l λn=>
 V (AN n (vJ 34))
 (J.a1 (vJ 4) k m)
 (J.a1 (vJ 3) k m))
 (oK (Ag c j) λo p=>
 Ac 2 o λq=>
 Z q p λr=>
 Ar .i64 r λs=>
 fI (wrap .i64 (AW s h)) λt=>
 oK (Ag c p) λu v=>
 Ac 5 u λw=>
 Z w v λx=>
 Ar .i64 x λy=>
 V (Bm (AN y t))
 (oK (Ag c v) λd f=>
 Ac 3 d λg=>
 Z g f λi=>
 fI (wrap .i64 (AW t (vJ 1))) λl=>
 a (.func 128) [c,(.int .i64 t),(.int .i64 l)] f λn k=>
 Z g k λm=>
 BE m i<|
 oK (AF env (env.ty 52) [(0,(.int .i64 (vJ 2))),(1,n)] k) λj o=>
 oK (AE env 31 (λe q=>Ap 1 [(0,j)] o e q)) λr h=>
 Z g h λs=>
 BE s i<|
 oK (AB env .append [31,31] [i,r] h) λp u=>
 oK (Ag c u) λw x=>
 Ac 3 w λy=>
 BC y p x λd=>
 oK (Ag c d) λa f=>
 Ac 5 a λl=>
 BC l (.int .i64 t) f λm=>
 b (.tuple [(.int .i64 (vJ 0)),(.int .i64 (vJ 0))]) m)
 (b (.tuple [(.int .i64 (vJ 0)),(.int .i64 (vJ 0))]) v)))
def Nj(_c:CF)(a:KV)(_J:To)(b c:Int)(d:H):Prop:=
 a (.tuple [(.int .i64 b),(.int .i64 c)]) d
def Ayo:To:=⟨λ_ _=>False,λ_ _ _=>False⟩
def Sk(c:CF)(k:KV)(m:Nat):To:=vP Ayo (λ_ J=>⟨PZ c k J,Nj c k J⟩) m
def f173(J:To):Jump:=λa f b=>match a with
 |0=>J.a0 (f 0) b
 |1=>Ar .i64 (f 2) λc=>Ar .i64 (f 3) λd=>J.a1 c d b
 |_=>False
def Aby:As:=[(.root,0),((.r (.r (.l (.r (.r (.l (.r (.r (.r .root))))))))),1)]
def d174:Code:=wz .skip (λc=>c) Tryz.f174.body
def Api:Ak:=[]
structure ZH where
 a0:Int→H→Prop
def QZ(_c:CF)(a:KV)(_J:ZH)(b:Int)(c:H):Prop:=
 AM (λk1=>gate true (CJ (vJ 97) b)
 (k1 (CJ b (vJ 122)) c)
 (k1 false c)) λd f=>
 AM (λk4=>gate false d
 (AM (λk7=>gate true (CJ (vJ 65) b)
 (k7 (CJ b (vJ 90)) f)
 (k7 false f)) λg h=>
 k4 g h)
 (k4 true f)) λi j=>
 AM (λOB=>gate false i
 (OB (AN b (vJ 95)) j)
 (OB true j)) λk l=>
 a (.bool k) l
def Bdc:ZH:=⟨λ_ _=>False⟩
def ZQ(c:CF)(k:KV)(m:Nat):ZH:=vP Bdc (λ_ J=>⟨QZ c k J⟩) m
def f174(J:ZH):Jump:=λa f b=>match a with
 |0=>Ar .u8 (f 0) λc=>J.a0 c b
 |_=>False
def Apl:As:=[(.root,0)]
def d175:Code:=wz .skip (λc=>c) Tryz.f175.body
def Apw:Ak:=[(1,[0,1,2,3,4,5,6,7,8,9,10,11]),(3,[0,1,2,3,4,5,6,7,8,9,10,11,12,13])]
structure YK where
 a0:U→Int→H→Prop
def QA(_c:CF)(a:KV)(_J:YK)(b:U)(c:Int)(d:H):Prop:=
 oK (Ag b d) λf g=>
 Ac 2 f λh=>
 Z h g λi=>
 Ar .i64 i λj=>
 fI (wrap .i64 (AW j c)) λk=>
 oK (Ag b g) λl m=>
 Ac 1 l λn=>
 Z n m λo=>
 Bz o λp=>
 V (CJ (vJ p) k)
 (a (.int .u8 (vJ 0)) m)
 (oK (Ag b m) λq r=>
 Ac 1 q λs=>
 Z s r λt=>
 oK (Ag b r) λu v=>
 Ac 2 u λw=>
 Z w v λx=>
 Ar .i64 x λy=>
 fI (wrap .i64 (AW y c)) λd=>
 Bo d λf=>
 A7 3 f t λh=>
 Ac 0 h λi=>
 Z i v λj=>
 Ar .u8 j λg=>
 a (.int .u8 g) v)
def Bcr:YK:=⟨λ_ _ _=>False⟩
def YX(c:CF)(k:KV)(m:Nat):YK:=vP Bcr (λ_ J=>⟨QA c k J⟩) m
def f175(J:YK):Jump:=λa f b=>match a with
 |0=>Ar .i64 (f 1) λc=>J.a0 (f 0) c b
 |_=>False
def Anr:As:=[(.root,0)]
def d176:Code:=wz .skip (λc=>c) Tryz.f176.body
def Aml:Ak:=[]
structure ZZ where
 a0:Int→H→Prop
def Q2(_c:CF)(a:KV)(_J:ZZ)(b:Int)(c:H):Prop:=
 AM (λk1=>gate true (CJ (vJ 48) b)
 (k1 (CJ b (vJ 57)) c)
 (k1 false c)) λd f=>
 a (.bool d) f
def Bcm:ZZ:=⟨λ_ _=>False⟩
def aH(c:CF)(k:KV)(m:Nat):ZZ:=vP Bcm (λ_ J=>⟨Q2 c k J⟩) m
def f176(J:ZZ):Jump:=λa f b=>match a with
 |0=>Ar .u8 (f 0) λc=>J.a0 c b
 |_=>False
def Alq:As:=[(.root,0)]
def d177:Code:=wz .skip (λc=>c) Tryz.f177.body
def aR:Ak:=[]
structure LB where
 a0:U→H→Prop
 a1:U→Int→H→Prop
 a2:U→Int→H→Prop
 a3:U→Int→H→Prop
def Qt(a:CF)(_k:KV)(J:LB)(b:U)(c:H):Prop:=
 a (.func 175) [b,(.int .i64 (vJ 0))] c λd f=>
 Ar .u8 d λg=>
 V (AN g (vJ 46))
 (fI (wrap .i64 (AW (vJ 0) (vJ 1))) λh=>
 J.a3 b h f)
 (J.a3 b (vJ 0) f)
def Qg(a:CF)(b:KV)(J:LB)(c:U)(d:Int)(f:H):Prop:=
 a (.func 175) [c,(.int .i64 d)] f λg h=>
 Ar .u8 g λi=>
 fI (wrap .i64 (AW d (vJ 1))) λj=>
 a (.func 175) [c,(.int .i64 j)] h λk l=>
 Ar .u8 k λm=>
 a (.func 215) [(.str 4 1349535077),(.int .u8 i)] l λn o=>
 Ar .i64 n λp=>
 AM (λO5=>gate true (CJ (vJ 0) p)
 (AM (λT8=>gate false (AN m (vJ 43))
 (T8 (AN m (vJ 45)) o)
 (T8 true o)) λq r=>
 O5 q r)
 (O5 false o)) λs t=>
 V s
 (fI (wrap .i64 (AW d (vJ 1))) λu=>
 J.a2 c u t)
 (a (.func 174) [(.int .u8 i)] t λv w=>
 Be v λx=>
 AM (λee=>gate true (Bm x)
 (a (.func 176) [(.int .u8 i)] w λy f=>
 Be y λg=>
 ee (Bm g) f)
 (ee false w)) λh j=>
 AM (λbU=>gate true h
 (bU (Bm (AN i (vJ 46))) j)
 (bU false j)) λk l=>
 V k
 (b (.int .i64 d) l)
 (J.a2 c d l))
def P9(_c:CF)(_k:KV)(J:LB)(a:U)(b:Int)(c:H):Prop:=
 fI (wrap .i64 (AW b (vJ 1))) λd=>
 J.a1 a d c
def Qu(a:CF)(b:KV)(J:LB)(c:U)(d:Int)(f:H):Prop:=
 a (.func 175) [c,(.int .i64 d)] f λg h=>
 Ar .u8 g λi=>
 a (.func 176) [(.int .u8 i)] h λj k=>
 Be j λl=>
 V (Bm l)
 (b (.int .i64 (vJ 0)) k)
 (fI (wrap .i64 (AW d (vJ 1))) λm=>
 J.a1 c m k)
def Beu:LB:=⟨λ_ _=>False,λ_ _ _=>False,λ_ _ _=>False,λ_ _ _=>False⟩
def Iv(c:CF)(k:KV)(m:Nat):LB:=vP Beu (λ_ J=>⟨Qt c k J,Qg c k J,P9 c k J,Qu c k J⟩) m
def f177(J:LB):Jump:=λa f b=>match a with
 |0=>J.a0 (f 0) b
 |1=>Ar .i64 (f 3) λc=>J.a1 (f 0) c b
 |2=>Ar .i64 (f 3) λc=>J.a2 (f 0) c b
 |3=>Ar .i64 (f 3) λc=>J.a3 (f 0) c b
 |_=>False
def Yi:As:=[(.root,0),((.l (.r (.r (.r (.r (.r .root)))))),1),((.r (.l (.l (.r (.r (.r (.r (.r .root)))))))),2),((.r (.r (.r .root))),3)]
def d178:Code:=wz .skip (λc=>c) Tryz.f178.body
def lZ:Ak:=[]
structure Sh where
 a0:U→H→Prop
 a1:U→U→Int→Int→H→Prop
def QU(_c:CF)(_k:KV)(J:Sh)(a:U)(b:H):Prop:=
 oK (AE env 32 (λe c=>Ap 29 [(0,(.str 4 975518245)),(1,(.str 3 3026478)),(2,(.str 3 4013116)),(3,(.str 3 4013630)),(4,(.str 2 15917)),(5,(.str 2 11051)),(6,(.str 2 11565)),(7,(.str 2 15420)),(8,(.str 2 15934)),(9,(.str 2 15676)),(10,(.str 2 15678)),(11,(.str 2 15677)),(12,(.str 2 15649)),(13,(.str 2 9766)),(14,(.str 2 31868)),(15,(.str 2 15658)),(16,(.str 2 15663)),(17,(.str 2 15653)),(18,(.str 2 15659)),(19,(.str 2 15661)),(20,(.str 2 15654)),(21,(.str 2 15710)),(22,(.str 2 15740)),(23,(.str 2 8995)),(24,(.str 2 14908)),(25,(.str 2 15930)),(26,(.str 2 9532)),(27,(.str 2 15909)),(28,(.str 2 14885))] b e c)) λd f=>
 Bz d λg=>
 J.a1 a d (vJ g) (vJ 0) f
def QH(a:CF)(b:KV)(J:Sh)(c d:U)(f g:Int)(h:H):Prop:=
 V (Ba g f)
 (Bo g λi=>
 A7 1 i d λj=>
 Z j h λk=>
 Bv k λl c8=>
 a (.func 172) [c,(.str l c8)] h λm n=>
 Be m λo=>
 V o
 (b (.int .i64 (vJ l)) n)
 (fI (wrap .i64 (AW g (vJ 1))) λp=>
 J.a1 c d f p n))
 (a (.func 175) [c,(.int .i64 (vJ 0))] h λq r=>
 Ar .u8 q λs=>
 AM (λtv=>gate true (Bm (AN s (vJ 0)))
 (a (.func 215) [(.str 25 220783302398203228823658293894207885629972945978387855859035),(.int .u8 s)] r λt u=>
 Ar .i64 t λv=>
 tv (CJ (vJ 0) v) u)
 (tv false r)) λw x=>
 V w
 (b (.int .i64 (vJ 1)) x)
 (b (.int .i64 (vJ 0)) x))
def Bfd:Sh:=⟨λ_ _=>False,λ_ _ _ _ _=>False⟩
def Pz(c:CF)(k:KV)(m:Nat):Sh:=vP Bfd (λ_ J=>⟨QU c k J,QH c k J⟩) m
def f178(J:Sh):Jump:=λa f b=>match a with
 |0=>J.a0 (f 0) b
 |1=>Ar .i64 (f 9) λc=>Ar .i64 (f 10) λd=>J.a1 (f 0) (f 8) c d b
 |_=>False
def uu:As:=[(.root,0),((.l (.r (.l (.r (.r .root))))),1)]
def d187:Code:=wz .skip (λc=>c) Tryz.f187.body
def nL:Ak:=[(3,[0,1,2,3,4,5,6])]
def lI:As:=[(.root,0)]
def d190:Code:=wz .skip (λc=>c) Tryz.f190.body
def mb:Ak:=[(5,[0,1,2,3,4,5,6,7,8,9,10,11,12,13,14,15,16,17,18,19,20,21,22]),(6,[0,1,2,3,4,5,6,7,8,9,10,11]),(8,[0,1,2,3,4,5,6])]
def Acy:As:=[(.root,0),((.l (.r (.l (.r (.r (.r (.r (.r (.r (.r (.r (.r .root)))))))))))),1),((.r (.r (.l (.l (.r (.r (.l (.l (.r (.l (.r (.r (.r (.r (.r (.r (.r (.r (.r .root))))))))))))))))))),2),((.r (.r (.r (.r (.r (.r (.r (.r (.r .root))))))))),3),((.r (.r (.l (.r (.l (.r (.r (.r .root)))))))),4),((.r (.r (.r (.r (.r (.r (.r (.r .root)))))))),5)]
def d192:Code:=wz .skip (λc=>c) Tryz.f192.body
def qK:Ak:=[]
def Acs:As:=[(.root,0),((.l (.r .root)),1)]
def d193:Code:=wz .skip (λc=>c) Tryz.f193.body
def uJ:Ak:=[]
def oM:As:=[(.root,0),((.r (.r .root)),1)]
def d194:Code:=wz .skip (λc=>c) Tryz.f194.body
def Ama:Ak:=[]
structure Yz where
 a0:Nat→Nat→Int→H→Prop
def Qx(a:CF)(b:KV)(_J:Yz)(c d:Nat)(f:Int)(g:H):Prop:=
 a (.func 228) [(.str c d),(.int .u8 f)] g λh i=>
 Ar .i64 h λj=>
 b (.int .i64 j) i
def Bcl:Yz:=⟨λ_ _ _ _=>False⟩
def Zz(c:CF)(k:KV)(m:Nat):Yz:=vP Bcl (λ_ J=>⟨Qx c k J⟩) m
def f194(J:Yz):Jump:=λa f b=>match a with
 |0=>Bv (f 0) λc d=>Ar .u8 (f 1) λg=>J.a0 c d g b
 |_=>False
def Aqa:As:=[(.root,0)]
def d198:Code:=wz .skip (λc=>c) Tryz.f198.body
def Apf:Ak:=[]
structure aT where
 a0:U→H→Prop
def QJ(a:CF)(b:KV)(_J:aT)(c:U)(d:H):Prop:=
 oK (Ag c d) λf g=>
 Ac 0 f λh=>
 a (.func 230) [h] g λi j=>
 Ar .u32 i λk=>
 b (.bool (Bm (AN k (vJ 0)))) j
def Bax:aT:=⟨λ_ _=>False⟩
def ao(c:CF)(k:KV)(m:Nat):aT:=vP Bax (λ_ J=>⟨QJ c k J⟩) m
def f198(J:aT):Jump:=λL f h=>match L with
 |0=>J.a0 (f 0) h
 |_=>False
def Anb:As:=[(.root,0)]
def d199:Code:=wz .skip (λc=>c) Tryz.f199.body
def U1:Ak:=[]
def Bii:As:=[(.root,0)]
def d200:Code:=wz .skip (λc=>c) Tryz.f200.body
def Ael:Ak:=[]
def pa:As:=[(.root,0),((.l (.l (.r (.r (.r .root))))),1),((.r (.r (.r (.r (.r (.r (.r (.l (.r (.l (.l (.l (.r (.r (.r .root))))))))))))))),2)]
def d201:Code:=wz .skip (λc=>c) Tryz.f201.body
def Aag:Ak:=[]
def lS:As:=[(.root,0)]
def d202:Code:=wz .skip (λc=>c) Tryz.f202.body
def qv:Ak:=[]
def Aef:As:=[(.root,0)]
def d203:Code:=wz .skip (λc=>c) Tryz.f203.body
def Abi:Ak:=[]
def pP:As:=[(.root,0),((.l (.r (.l (.r (.r (.r (.r (.r .root)))))))),1),((.r (.r (.l (.l (.r (.r (.l (.l (.r (.l (.r (.r (.r (.r (.r .root))))))))))))))),2)]
def d205:Code:=wz .skip (λc=>c) Tryz.f205.body
def tX:Ak:=[]
def py:As:=[(.root,0),((.l (.r (.l (.r (.r (.r (.r .root))))))),1),((.r (.r (.r (.r .root)))),2)]
def d206:Code:=wz .skip (λc=>c) Tryz.f206.body
def rU:Ak:=[]
def Acx:As:=[(.root,0),((.l (.r (.l (.r (.r (.r (.r (.r (.r (.r (.r (.r (.r (.r .root)))))))))))))),1),((.r (.r (.r (.r (.r (.r (.r (.r (.r (.r (.r .root))))))))))),2),((.r (.r (.r (.r (.r (.r (.r (.r (.r .root))))))))),3),((.r (.l (.r (.r (.r (.r (.r (.r (.r (.r .root)))))))))),4)]
def d207:Code:=wz .skip (λc=>c) Tryz.f207.body
def mF:Ak:=[(5,[0,1,2,3,4,5,6]),(6,[0,1,2,3,4,5,6,7,8,9])]
def Adn:As:=[(.root,0)]
def d208:Code:=wz .skip (λc=>c) Tryz.f208.body
def Adv:Ak:=[]
def Aee:As:=[(.root,0)]
def d211:Code:=wz .skip (λc=>c) Tryz.f211.body
def Amd:Ak:=[]
structure Yq where
 a0:U→H→Prop
def Qc(a:CF)(b:KV)(_J:Yq)(c:U)(d:H):Prop:=
 oK (Ag c d) λf g=>
 Ac 0 f λh=>
 a (.func 248) [h] g λi j=>
 Ar .i64 i λk=>
 b (.int .i64 k) j
def Bfa:Yq:=⟨λ_ _=>False⟩
def ah(c:CF)(k:KV)(m:Nat):Yq:=vP Bfa (λ_ J=>⟨Qc c k J⟩) m
def f211(J:Yq):Jump:=λL f h=>match L with
 |0=>J.a0 (f 0) h
 |_=>False
def Aoo:As:=[(.root,0)]
def d212:Code:=wz .skip (λc=>c) Tryz.f212.body
def Amw:Ak:=[]
structure ZS where
 a0:U→Int→Int→H→Prop
def QW(a:CF)(b:KV)(_J:ZS)(c:U)(d f:Int)(g:H):Prop:=
 oK (Ag c g) λh i=>
 Ac 0 h λj=>
 a (.func 249) [j,(.int .i64 d),(.int .i64 f)] i λk l=>
 Be k λm=>
 b (.bool m) l
def Azy:ZS:=⟨λ_ _ _ _=>False⟩
def ZU(c:CF)(k:KV)(m:Nat):ZS:=vP Azy (λ_ J=>⟨QW c k J⟩) m
def f212(J:ZS):Jump:=λa f b=>match a with
 |0=>Ar .i64 (f 1) λc=>Ar .i64 (f 2) λd=>J.a0 (f 0) c d b
 |_=>False
def Aoy:As:=[(.root,0)]
def d214:Code:=wz .skip (λc=>c) Tryz.f214.body
def Amv:Ak:=[]
structure ZA where
 a0:Nat→Nat→Nat→Nat→H→Prop
def QC(_c:CF)(a:KV)(_J:ZA)(b c:Nat)(d f:Nat)(g:H):Prop:=
 AM (λk1=>gate true (CJ (vJ d) (vJ b))
 (Lk b c 0 d λh i=>
 k1 (CL h i d f) g)
 (k1 false g)) λj k=>
 a (.bool j) k
def Azr:ZA:=⟨λ_ _ _ _ _=>False⟩
def Zq(c:CF)(k:KV)(m:Nat):ZA:=vP Azr (λ_ J=>⟨QC c k J⟩) m
def f214(J:ZA):Jump:=λa f b=>match a with
 |0=>Bv (f 0) λc d=>Bv (f 1) λg h=>J.a0 c d g h b
 |_=>False
def Apc:As:=[(.root,0)]
def d215:Code:=wz .skip (λc=>c) Tryz.f215.body
def Amp:Ak:=[]
structure YU where
 a0:Nat→Nat→Int→H→Prop
def Qp(a:CF)(b:KV)(_J:YU)(c d:Nat)(f:Int)(g:H):Prop:=
 a (.func 194) [(.str c d),(.int .u8 f)] g λh i=>
 Ar .i64 h λj=>
 b (.int .i64 j) i
def Baq:YU:=⟨λ_ _ _ _=>False⟩
def YL(c:CF)(k:KV)(m:Nat):YU:=vP Baq (λ_ J=>⟨Qp c k J⟩) m
def f215(J:YU):Jump:=λa f b=>match a with
 |0=>Bv (f 0) λc d=>Ar .u8 (f 1) λg=>J.a0 c d g b
 |_=>False
def Alo:As:=[(.root,0)]
def d216:Code:=wz .skip (λc=>c) Tryz.f216.body
def Acl:Ak:=[]
structure Sp where
 a0:U→H→Prop
 a1:U→U→Int→Int→H→Prop
def QP(_c:CF)(_k:KV)(J:Sp)(a:U)(b:H):Prop:=
 oK (AE env 32 (λe c=>Ap 5 [(0,(.str 0 0)),(1,(.str 1 76)),(2,(.str 1 117)),(3,(.str 1 85)),(4,(.str 2 14453))] b e c)) λd f=>
 Bz d λg=>
 J.a1 a d (vJ g) (vJ 0) f
def P5(a:CF)(b:KV)(J:Sp)(c d:U)(f g:Int)(h:H):Prop:=
 V (Ba g f)
 (Bo g λi=>
 A7 1 i d λj=>
 Z j h λk=>
 Bv k λl c8=>
 a (.func 175) [c,(.int .i64 (vJ l))] h λm n=>
 Ar .u8 m λo=>
 a (.func 172) [c,(.str l c8)] n λp q=>
 Be p λr=>
 AM (λO5=>gate true r
 (AM (λT8=>gate false (AN o (vJ 34))
 (AM (λcZ=>gate true (AN o (vJ 39))
 (cZ (Bm (CL l c8 2 14453)) q)
 (cZ false q)) λs t=>
 T8 s t)
 (T8 true q)) λu v=>
 O5 u v)
 (O5 false q)) λw x=>
 V w
 (b (.int .i64 (vJ l)) x)
 (fI (wrap .i64 (AW g (vJ 1))) λy=>
 J.a1 c d f y x))
 (b (.int .i64 (yx 0)) h)
def Bco:Sp:=⟨λ_ _=>False,λ_ _ _ _ _=>False⟩
def PH(c:CF)(k:KV)(m:Nat):Sp:=vP Bco (λ_ J=>⟨QP c k J,P5 c k J⟩) m
def f216(J:Sp):Jump:=λa f b=>match a with
 |0=>J.a0 (f 0) b
 |1=>Ar .i64 (f 7) λc=>Ar .i64 (f 8) λd=>J.a1 (f 0) (f 6) c d b
 |_=>False
def mu:As:=[(.root,0),((.l (.r (.l (.r .root)))),1)]
def d217:Code:=wz .skip (λc=>c) Tryz.f217.body
def gw:Ak:=[(3,[0,1,2,3,4,5,6,7,8,9,10,11]),(9,[0,1,2,3,4,5,6,7,8,9,10,11,12,13,14,15,16,17,18,19])]
structure Ns where
 a0:U→Int→H→Prop
 a1:U→Int→Int→H→Prop
 a2:U→Int→Int→H→Prop
def QE(a:CF)(_k:KV)(J:Ns)(b:U)(c:Int)(d:H):Prop:=
 a (.func 175) [b,(.int .i64 c)] d λf g=>
 Ar .u8 f λh=>
 fI (wrap .i64 (AW c (vJ 1))) λi=>
 J.a1 b h i g
def Q6(a:CF)(b:KV)(J:Ns)(c:U)(d f:Int)(g:H):Prop:=
 oK (Ag c g) λh i=>
 Ac 2 h λj=>
 Z j i λk=>
 Ar .i64 k λl=>
 fI (wrap .i64 (AW l f)) λm=>
 oK (Ag c i) λn o=>
 Ac 1 n λp=>
 Z p o λq=>
 Bz q λr=>
 V (Ba m (vJ r))
 (a (.func 175) [c,(.int .i64 f)] o λs t=>
 Ar .u8 s λu=>
 V (AN u (vJ 10))
 (b (.int .i64 (vJ 0)) t)
 (V (AN u (vJ 92))
 (oK (Ag c t) λv w=>
 Ac 2 v λx=>
 Z x w λy=>
 Ar .i64 y λg=>
 fI (wrap .i64 (AW g f)) λh=>
 fI (wrap .i64 (AW h (vJ 1))) λj=>
 oK (Ag c w) λk l=>
 Ac 1 k λi=>
 Z i l λn=>
 Bz n λp=>
 AM (λbU=>gate true (Ba j (vJ p))
 (fI (wrap .i64 (AW f (vJ 1))) λq=>
 a (.func 175) [c,(.int .i64 q)] l λm r=>
 Ar .u8 m λs=>
 bU (AN s (vJ 10)) r)
 (bU false l)) λv x=>
 V v
 (b (.int .i64 (vJ 0)) x)
 (fI (wrap .i64 (AW f (vJ 1))) λy=>
 J.a2 c d y x))
 (V (AN u d)
 (fI (wrap .i64 (AW f (vJ 1))) λg=>
 b (.int .i64 g) t)
 (J.a2 c d f t))))
 (b (.int .i64 (vJ 0)) o)
def QF(_c:CF)(_k:KV)(J:Ns)(a:U)(b c:Int)(d:H):Prop:=
 fI (wrap .i64 (AW c (vJ 1))) λf=>
 J.a1 a b f d
def Azq:Ns:=⟨λ_ _ _=>False,λ_ _ _ _=>False,λ_ _ _ _=>False⟩
def Lr(c:CF)(k:KV)(m:Nat):Ns:=vP Azq (λ_ J=>⟨QE c k J,Q6 c k J,QF c k J⟩) m
def f217(J:Ns):Jump:=λa f b=>match a with
 |0=>Ar .i64 (f 1) λc=>J.a0 (f 0) c b
 |1=>Ar .u8 (f 5) λd=>Ar .i64 (f 6) λg=>J.a1 (f 0) d g b
 |2=>Ar .u8 (f 5) λd=>Ar .i64 (f 6) λg=>J.a2 (f 0) d g b
 |_=>False
def gu:As:=[(.root,0),((.l (.r (.l (.r (.r .root))))),1),((.r (.r (.l (.l (.r (.l (.r (.r .root)))))))),2)]
def d223:Code:=wz .skip (λc=>c) Tryz.f223.body
def nH:Ak:=[]
def oJ:As:=[(.root,0)]
def d224:Code:=wz .skip (λc=>c) Tryz.f224.body
def nY:Ak:=[]
def ny:As:=[(.root,0)]
def d226:Code:=wz .skip (λc=>c) Tryz.f226.body
def Abj:Ak:=[]
def rp:As:=[(.root,0),((.l (.r (.l (.r .root)))),1)]
def d231:Code:=wz .skip (λc=>c) Tryz.f231.body
def mw:Ak:=[]
def Abd:As:=[(.root,0)]
def d232:Code:=wz .skip (λc=>c) Tryz.f232.body
def Abx:Ak:=[]
structure YY where
 a0:U→H→Prop
def gn(a:CF)(b:KV)(_J:YY)(c:U)(d:H):Prop:=
 oK (Ag c d) λf g=>
 Ac 0 f λh=>
 a (.func 258) [h] g λ_ i=>
 b (.tuple []) i
def Bdk:YY:=⟨λ_ _=>False⟩
def S7(c:CF)(k:KV)(m:Nat):YY:=vP Bdk (λ_ J=>⟨gn c k J⟩) m
def f232(J:YY):Jump:=λL f h=>match L with
 |0=>J.a0 (f 0) h
 |_=>False
def rG:As:=[(.root,0)]
def d233:Code:=wz .skip (λc=>c) Tryz.f233.body
def mK:Ak:=[(0,[0,1,2,3,4,5])]
structure bm where
 a0:U→Bool→H→Prop
def fC(a:CF)(b:KV)(_J:bm)(c:U)(d:Bool)(f:H):Prop:=
 oK (Ag c f) λg h=>
 Ac 0 g λi=>
 a (.func 260) [(.bool d)] h λj k=>
 Ar .u32 j λl=>
 a (.func 259) [i,(.int .u32 l)] k λ_ m=>
 b (.tuple []) m
def Bhd:bm:=⟨λ_ _ _=>False⟩
def Sq(c:CF)(k:KV)(m:Nat):bm:=vP Bhd (λ_ J=>⟨fC c k J⟩) m
def f233(J:bm):Jump:=λa f b=>match a with
 |0=>Be (f 1) λc=>J.a0 (f 0) c b
 |_=>False
def Adi:As:=[(.root,0)]
def d235:Code:=wz .skip (λc=>c) Tryz.f235.body
def Aaw:Ak:=[]
def Ado:As:=[(.root,0),((.r (.r (.r (.r (.r (.r (.r (.r .root)))))))),1),((.r (.l (.r (.r (.r (.r (.r (.r (.r .root))))))))),2)]
def d236:Code:=wz .skip (λc=>c) Tryz.f236.body
def Adg:Ak:=[]
def tJ:As:=[(.root,0)]
def d238:Code:=wz .skip (λc=>c) Tryz.f238.body
def su:Ak:=[(11,[0,1,2,3,4,5,6,7,8]),(15,[0,1,2,3,4,5,6,7,8])]
def rN:As:=[(.root,0),((.r (.l (.r (.r (.r (.r (.r (.r (.r (.r .root)))))))))),1)]
def d239:Code:=wz .skip (λc=>c) Tryz.f239.body
def uT:Ak:=[]
def sJ:As:=[(.root,0)]
def d240:Code:=wz .skip (λc=>c) Tryz.f240.body
def tk:Ak:=[]
def mg:As:=[(.root,0)]
def d243:Code:=wz .skip (λc=>c) Tryz.f243.body
def nG:Ak:=[(1,[0,1,2,3,4,5,6,7,8,9,10,11,12,13,14,15])]
def Adj:As:=[(.root,0)]
def d244:Code:=wz .skip (λc=>c) Tryz.f244.body
def Ack:Ak:=[(1,[0,1,3,4,2,6,5,7,8,9])]
def rW:As:=[(.root,0)]
def d255:Code:=wz .skip (λc=>c) Tryz.f255.body
def sW:Ak:=[]
def rH:As:=[(.root,0),((.l (.r (.l (.r .root)))),1)]
def d257:Code:=wz .skip (λc=>c) Tryz.f257.body
def ng:Ak:=[]
def qF:As:=[(.root,0)]
def d258:Code:=wz .skip (λc=>c) Tryz.f258.body
def tO:Ak:=[]
def Abh:As:=[(.root,0),((.r .root),1)]
def d260:Code:=wz .skip (λc=>c) Tryz.f260.body
def me:Ak:=[]
def lU:As:=[(.root,0)]
def d261:Code:=wz .skip (λc=>c) Tryz.f261.body
def nc:Ak:=[(7,[0,1,2,3,4,5,6,8,7,9,10])]
def uj:As:=[(.root,0),((.l (.l (.r (.r .root)))),1)]
def d262:Code:=wz .skip (λc=>c) Tryz.f262.body
def rA:Ak:=[(1,[0,1,2,3,4,5,6,7,8,9,10,11,12,13,14,15,16,17,18,19,20,21,22,23,24])]
def sr:As:=[(.root,0)]
def d263:Code:=wz .skip (λc=>c) Tryz.f263.body
def Adw:Ak:=[]
def uA:As:=[(.root,0)]
def d264:Code:=wz .skip (λc=>c) Tryz.f264.body
def Aen:Ak:=[]
def mC:As:=[(.root,0)]
def d267:Code:=wz .skip (λc=>c) Tryz.f267.body
def lP:Ak:=[]
def Aco:As:=[(.root,0)]
def d268:Code:=wz .skip (λc=>c) Tryz.f268.body
def gk:Ak:=[(4294967294,[4]),(4294967295,[38])]
def Azv:OX:=fE gk (GZ d268 (.l (.r (.l (.r (.r (.l (.r .root))))))))
def Abl:As:=[(.root,0),((.lab (.r .root) 0),1)]
def d285:Code:=wz .skip (λc=>c) Tryz.f285.body
def mv:Ak:=[]
def nP:As:=[(.root,0),((.l (.l (.r (.r (.r (.r (.r .root))))))),1),((.r (.l (.r (.l (.l (.l (.l (.l (.r (.r (.r (.r (.r .root))))))))))))),2),((.r (.l (.r (.l (.r (.r (.r (.r (.r (.l (.l (.l (.l (.r (.r (.r (.r (.r .root)))))))))))))))))),3),((.r (.r (.r (.l (.r (.l (.r (.r (.r (.r (.r (.r (.l (.r (.r (.r (.r (.r (.r (.r (.l (.l (.l (.l (.r (.r (.r (.r (.r .root))))))))))))))))))))))))))))),4),((.r (.l (.r (.l (.r (.r (.r (.r (.r (.r (.l (.r (.r (.r (.r (.r (.r (.r (.l (.l (.l (.l (.r (.r (.r (.r (.r .root))))))))))))))))))))))))))),5),((.r (.r (.r (.l (.r (.r (.r (.r (.r (.r (.r (.l (.l (.l (.l (.r (.r (.r (.r (.r .root)))))))))))))))))))),6),((.r (.r (.r (.r (.r (.r (.l (.l (.l (.l (.r (.r (.r (.r (.r .root))))))))))))))),7),((.r (.r (.r (.r (.r (.l (.l (.l (.l (.r (.r (.r (.r (.r .root)))))))))))))),8),((.r (.r (.r (.r (.l (.l (.l (.l (.r (.r (.r (.r (.r .root))))))))))))),9),((.r (.r (.r (.l (.l (.l (.l (.r (.r (.r (.r (.r .root)))))))))))),10),((.r (.r (.r (.r (.r (.r .root)))))),11)]
def d289:Code:=wz .skip (λc=>c) Tryz.f289.body
def uv:Ak:=[]
def tP:As:=[(.root,0)]
def d290:Code:=wz .skip (λc=>c) Tryz.f290.body
def sO:Ak:=[(1,[0,1,2,3,4,5,6,7,8,9,10,11,12,13,14,15,16,17,18,19,20,21,22,23]),(3,[0,1,2,3,4,5,6,7,8,9,10,11])]
def nu:As:=[(.root,0),((.l (.r (.l (.r (.r (.r .root)))))),1)]
def d291:Code:=wz .skip (λc=>c) Tryz.f291.body
def lG:Ak:=[]
def Aeo:As:=[(.root,0)]
def d292:Code:=wz .skip (λc=>c) Tryz.f292.body
def rY:Ak:=[]
def Abb:As:=[(.root,0),((.r (.r (.r (.r (.r (.r (.r (.r (.r (.r (.r (.r (.r (.r (.r (.l (.r (.l (.r (.r (.r .root))))))))))))))))))))),1),((.r (.r (.r (.r (.r (.r (.r (.r (.r (.r (.r (.r (.r (.l (.r (.l (.r (.r (.r .root))))))))))))))))))),2)]
def d293:Code:=wz .skip (λc=>c) Tryz.f293.body
def th:Ak:=[]
def sw:As:=[(.root,0)]
def d294:Code:=wz .skip (λc=>c) Tryz.f294.body
def ql:Ak:=[]
def Abf:As:=[(.root,0)]
def d296:Code:=wz .skip (λc=>c) Tryz.f296.body
def pn:Ak:=[]
def uz:As:=[(.root,0),((.l (.r (.l (.r .root)))),1)]
def d297:Code:=wz .skip (λc=>c) Tryz.f297.body
def qp:Ak:=[]
def nw:As:=[(.root,0),((.r (.l (.r (.l (.r (.r (.r .root))))))),1),((.l (.r (.l (.r (.r (.r (.r .root))))))),2),((.r (.r (.l (.l (.r (.r (.l (.l (.r (.l (.r (.r (.r (.r .root)))))))))))))),3),((.l (.r (.l (.r (.r (.r (.r (.r (.r (.r (.r .root))))))))))),4),((.r (.r (.r (.r .root)))),5)]
def d300:Code:=wz .skip (λc=>c) Tryz.f300.body
def Adx:Ak:=[]
def qb:As:=[(.root,0),((.l (.r (.l (.r .root)))),1)]
def d301:Code:=wz .skip (λc=>c) Tryz.f301.body
def ns:Ak:=[]
def Aax:As:=[(.root,0),((.l (.l (.r .root))),1)]
def d302:Code:=wz .skip (λc=>c) Tryz.f302.body
def mz:Ak:=[]
def Aac:As:=[(.root,0),((.l (.l (.r .root))),1)]
def d307:Code:=wz .skip (λc=>c) Tryz.f307.body
def ri:Ak:=[]
def uw:As:=[(.root,0)]
def d321:Code:=wz .skip (λc=>c) Tryz.f321.body
def um:Ak:=[(2,[0,1,2,3,4,5,6,7,8,9]),(3,[0,1,2,3,4,5,6,7,8,9,10,11])]
def oW:As:=[(.root,0),((.r (.r (.r .root))),1)]
def d322:Code:=wz .skip (λc=>c) Tryz.f322.body
def ma:Ak:=[]
def Aaa:As:=[(.root,0)]
def d325:Code:=wz .skip (λc=>c) Tryz.f325.body
def Acw:Ak:=[]
def Adz:As:=[(.root,0),((.r (.r (.r .root))),1)]
def d326:Code:=wz .skip (λc=>c) Tryz.f326.body
def ov:Ak:=[]
def rI:As:=[(.root,0)]
def d329:Code:=wz .skip (λc=>c) Tryz.f329.body
def sP:Ak:=[]
def Aap:As:=[(.root,0)]
def d337:Code:=wz .skip (λc=>c) Tryz.f337.body
def mc:Ak:=[]
def po:As:=[(.root,0)]
def d343:Code:=wz .skip (λc=>c) Tryz.f343.body
def sE:Ak:=[(5,[0,1,2,3,4])]
def uK:As:=[(.root,0),((.r (.r (.r (.r (.r .root))))),1)]
def d347:Code:=wz .skip (λc=>c) Tryz.f347.body
def nU:Ak:=[]
def Adq:As:=[(.root,0),((.l (.r (.l (.r (.r (.r (.r (.r (.r (.r (.r (.r (.r (.r .root)))))))))))))),1),((.r (.r (.r (.l (.l (.r (.r (.l (.l (.r (.l (.r (.r (.r (.r (.r (.r (.r (.r (.r (.r (.r .root)))))))))))))))))))))),2),((.r (.r (.r (.r (.r (.r (.r (.r .root)))))))),3),((.r (.r (.r (.r (.r (.r .root)))))),4),((.r (.r (.r (.r (.r .root))))),5)]
def d355:Code:=wz .skip (λc=>c) Tryz.f355.body
def oa:Ak:=[]
def Abu:As:=[(.root,0)]
def d356:Code:=wz .skip (λc=>c) Tryz.f356.body
def tB:Ak:=[(3,[0,1,2,3]),(5,[0,1,2,3,4,5,6])]
def sg:As:=[(.root,0),((.r (.r .root)),1)]
def d357:Code:=wz .skip (λc=>c) Tryz.f357.body
def sU:Ak:=[]
def sk:As:=[(.root,0)]
def d358:Code:=wz .skip (λc=>c) Tryz.f358.body
def uq:Ak:=[]
def mG:As:=[(.root,0)]
end Go.Den
