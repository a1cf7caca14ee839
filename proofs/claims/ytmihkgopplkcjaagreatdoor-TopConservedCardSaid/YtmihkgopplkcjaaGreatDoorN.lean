/- Part N of the proof of TopConserved. No condition. -/
import Derived.Test.YtmihkgopplkcjaaGreatDoorM
set_option linter.all false
set_option maxRecDepth 1000000
set_option maxHeartbeats 0
namespace Go.T
open Go Go.E Go.V Go.Proofs
section
variable {L : Lp}
theorem c10:Kk L [(58,[zs 5 ti])] [] (S10 N)=B10 L:=by kernel_rfl
theorem s10:Ok (S10 F10):=sk c10 ⟨⟩
theorem c28:Kk L [(58,[zs 5 ti])] [] (S28 N)=B28 L:=by kernel_rfl
theorem s28:Ok (S28 F28):=sk c28 ⟨⟩
theorem c11 {a}:Kk L [(58,[zs 5 ti])] [S28 a] (S11 N)=B11 L a:=by kernel_rfl
theorem s11:Ok (S11 F11):=sk c11 ⟨s28,⟨⟩⟩
theorem c15:Kk L [] [] (W3 N)=B15 L:=by kernel_rfl
theorem YX:Ok (W3 U5):=sk c15 ⟨⟩
theorem c14 {a}:Kk L [] [W3 a] (qs N)=B14 L a:=by kernel_rfl
theorem qF:Ok (qs iz):=sk c14 ⟨YX,⟨⟩⟩
theorem c16:Kk L [] [] (S16 N)=B16 L:=by kernel_rfl
theorem s16:Ok (S16 F16):=sk c16 ⟨⟩
theorem c17 {a b}:Kk L [(58,[.slot 3 (.own (.pair ti (.pair ti ti)) 68),zs 4 ti,zc 0 1 ti,zc 0 0 li])] [qs a,W3 b] (S17 N)=B17 L a b:=by kernel_rfl
theorem s17:Ok (S17 F17):=sk c17 ⟨qF,YX,⟨⟩⟩
theorem c32 {a b}:Kk L [] [qs a,W3 b] (S32 N)=B32 L a b:=by kernel_rfl
theorem s32:Ok (S32 F32):=sk c32 ⟨qF,YX,⟨⟩⟩
theorem c18 {a b}:Kk L [(58,[.slot 5 (.own BW 112),zs 6 ti,zc 0 1 ti,zc 0 0 li])] [W3 a,S32 b] (S18 N)=B18 L a b:=by kernel_rfl
theorem s18:Ok (S18 F18):=sk c18 ⟨YX,s32,⟨⟩⟩
theorem c5 {a b c d e}:Kk L [(7,[zc 0 0 li,zc 0 1 ti,.cell 14 0 (.own (.pair .str ti) 72)]),(58,[zs 6 ti,.cell 14 0 (.own (.pair .str ti) 72),zc 0 1 ti,zc 0 0 li])] [qs a,W3 b,S16 c,S17 d,S18 e] (S5 N)=B5 L a b c d e:=by kernel_rfl
theorem s5:Ok (S5 F5):=sk c5 ⟨qF,YX,s16,s17,s18,⟨⟩⟩
theorem c61:Kk L [(3,[]),(26,[zs 3 ti])] [] (z7 N)=B61 L:=by kernel_rfl
theorem s61:Ok (z7 rC):=sk c61 ⟨⟩
theorem M5w:Kk L [] [] (rE N)=rD L:=by kernel_rfl
theorem M5x:Ok (rE ju):=sk M5w ⟨⟩
theorem c62 {a}:Kk L [(58,[zs 3 ti]),(7462,[zs 4 ti])] [rE a] (S62 N)=B62 L a:=by kernel_rfl
theorem s62:Ok (S62 za):=sk c62 ⟨M5x,⟨⟩⟩
theorem c63:Kk L [(58,[zs 3 ti])] [] (S63 N)=B63 L:=by kernel_rfl
theorem s63:Ok (S63 zd):=sk c63 ⟨⟩
theorem c33 {a b c}:Kk L [(7,[zs 3 .bool]),(58,[zs 3 .bool,zs 4 ti]),(7462,[zs 3 .bool,zs 5 ti])] [z7 a,S62 b,S63 c] (S33 N)=B33 L a b c:=by kernel_rfl
theorem s33:Ok (S33 zf):=sk c33 ⟨s61,s62,s63,⟨⟩⟩
theorem c19 {a}:Kk L [(122,[zs 6 ti,.cell 9 1 (.own li 22)])] [S33 a] (S19 N)=B19 L a:=by kernel_rfl
theorem s19:Ok (S19 F19):=sk c19 ⟨s33,⟨⟩⟩
theorem M5z {a}:Kk L [(58,[zs 6 ti,zc 0 1 ti,zc 0 0 li,.ow 3 (.int .u8)])] [W3 a] (rG N)=rF L a:=by kernel_rfl
theorem M5A:Ok (rG jw):=sk M5z ⟨YX,⟨⟩⟩
theorem M5B:Kk L [(58,[zs 5 ti])] [] (jx N)=rH L:=by kernel_rfl
theorem M0u:Ok (jx cN):=sk M5B ⟨⟩
theorem M5C:Kk L [(58,[zs 5 ti,zs 6 ti])] [] (jy N)=rI L:=by kernel_rfl
theorem M0v:Ok (jy cP):=sk M5C ⟨⟩
theorem M5D {a b}:Kk L [] [jx a,jy b] (rK N)=rJ L a b:=by kernel_rfl
theorem M5E:Ok (rK cQ):=sk M5D ⟨M0u,M0v,⟨⟩⟩
theorem c56 {a b}:Kk L [] [rG a,rK b] (S56 N)=B56 L a b:=by kernel_rfl
theorem s56:Ok (S56 F56):=sk c56 ⟨M5A,M5E,⟨⟩⟩
theorem c57 {a}:Kk L [] [W3 a] (S57 N)=B57 L a:=by kernel_rfl
theorem s57:Ok (S57 F57):=sk c57 ⟨YX,⟨⟩⟩
theorem c30 {a b c d}:Kk L [(7,[zc 20 2 ti,zc 20 1 ti])] [qs a,W3 b,S56 c,S57 d] (S30 N)=B30 L a b c d:=by kernel_rfl
theorem s30:Ok (S30 F30):=sk c30 ⟨qF,YX,s56,s57,⟨⟩⟩
theorem c34:Kk L [(58,[.slot 3 (.own ti 3),.slot 4 (.own ti 3),zs 5 ti]),(1865,[zs 6 .bool]),(14922,[zs 6 .bool,zs 7 ti])] [] (S34 N)=B34 L:=by kernel_rfl
theorem s34:Ok (S34 F34):=sk c34 ⟨⟩
theorem M5F {a b}:Kk L [] [jx a,jy b] (rM N)=rL L a b:=by kernel_rfl
theorem M5G:Ok (rM jB):=sk M5F ⟨M0u,M0v,⟨⟩⟩
theorem M5H {a}:Kk L [] [rM a] (rO N)=rN L a:=by kernel_rfl
theorem M5I:Ok (rO jD):=sk M5H ⟨M5G,⟨⟩⟩
theorem M5J {a b}:Kk L [(31,[zs 5 ti,zs 6 ti])] [rO a,z7 b] (rQ N)=rP L a b:=by kernel_rfl
theorem M5K:Ok (rQ jF):=sk M5J ⟨M5I,s61,⟨⟩⟩
theorem c64 {a}:Kk L [(58,[zs 3 ti]),(7462,[zs 5 ti])] [rQ a] (yj N)=B64 L a:=by kernel_rfl
theorem s64:Ok (yj rS):=sk c64 ⟨M5K,⟨⟩⟩
theorem c65:Kk L [(58,[zs 3 ti,zs 4 ti])] [] (S65 N)=B65 L:=by kernel_rfl
theorem s65:Ok (S65 zh):=sk c65 ⟨⟩
theorem c35 {a b}:Kk L [(15,[.slot 5 (.own (.int .u8) 5)]),(122,[.slot 5 (.own (.int .u8) 5),zs 6 ti]),(3913,[.slot 5 (.own (.int .u8) 5)]),(31306,[.slot 5 (.own (.int .u8) 5),zs 8 ti]),(15655,[zs 9 (.int .u8)])] [yj a,S65 b] (S35 N)=B35 L a b:=by kernel_rfl
theorem s35:Ok (S35 F35):=sk c35 ⟨s64,s65,⟨⟩⟩
theorem c66 {a}:Kk L [] [W3 a] (S66 N)=B66 L a:=by kernel_rfl
theorem s66:Ok (S66 F66):=sk c66 ⟨YX,⟨⟩⟩
theorem c36 {a}:Kk L [] [S66 a] (S36 N)=B36 L a:=by kernel_rfl
theorem s36:Ok (S36 F36):=sk c36 ⟨s66,⟨⟩⟩
theorem c37 {a b}:Kk L [(7,[zc 0 0 li,zc 0 1 ti,.cell 14 2 (.own .str 9)]),(58,[zs 6 ti,.cell 14 2 (.own .str 9),zc 0 1 ti,zc 0 0 li])] [qs a,W3 b] (S37 N)=B37 L a b:=by kernel_rfl
theorem s37:Ok (S37 F37):=sk c37 ⟨qF,YX,⟨⟩⟩
theorem c67:Kk L [] [] (S67 N)=B67 L:=by kernel_rfl
theorem s67:Ok (S67 zj):=sk c67 ⟨⟩
theorem M5L:Kk L [(3,[]),(26,[zs 11 ti])] [] (rU N)=rT L:=by kernel_rfl
theorem M5M:Ok (rU jH):=sk M5L ⟨⟩
theorem c68 {a}:Kk L [(122,[.slot 5 (.own ti 3),zs 7 ti]),(7826,[.slot 5 (.own ti 3),zs 8 ti])] [rU a] (S68 N)=B68 L a:=by kernel_rfl
theorem s68:Ok (S68 zm):=sk c68 ⟨M5M,⟨⟩⟩
theorem c38 {a b}:Kk L [] [S67 a,S68 b] (S38 N)=B38 L a b:=by kernel_rfl
theorem s38:Ok (S38 F38):=sk c38 ⟨s67,s68,⟨⟩⟩
theorem c20 {a b c d e f g h}:Kk L [(15,[zc 11 0 ti,zc 0 1 ti,zc 0 0 li]),(2005,[zc 11 1 ti,zc 0 1 ti,zc 0 0 li]),(8023,[.slot 11 (.own A9 60),zc 0 0 li,zc 0 1 ti]),(64186,[.slot 11 (.own A9 60),zs 12 ti,zc 0 1 ti,zc 0 0 li]),(4015,[zs 124 .bool]),(32125,[zc 11 1 ti]),(64251,[.cell 11 5 (.own ti 3)]),(514010,[zs 14 ti,.cell 11 5 (.own ti 3)]),(514038,[zs 19 ti,.cell 11 6 (.own (.pair ti ti) 121),zc 0 1 ti,zc 0 0 li])] [qs a,W3 b,S30 c,S34 d,S35 e,S36 f,S37 g,S38 h] (S20 N)=B20 L a b c d e f g h:=by kernel_rfl
theorem s20:Ok (S20 F20):=sk c20 ⟨qF,YX,s30,s34,s35,s36,s37,s38,⟨⟩⟩
theorem c69:Kk L [(58,[.slot 3 (.own li 22),zs 4 ti])] [] (S69 N)=B69 L:=by kernel_rfl
theorem s69:Ok (S69 yk):=sk c69 ⟨⟩
theorem M5N:Kk L [(58,[.slot 3 (.own ti 3),zs 4 ti])] [] (UT N)=sa L:=by kernel_rfl
theorem fQ:Ok (UT OR):=sk M5N ⟨⟩
theorem c70:Kk L [] [] (yl N)=B70 L:=by kernel_rfl
theorem s70:Ok (yl qu):=sk c70 ⟨⟩
theorem c71:Kk L [(26,[zs 5 ti])] [] (yp N)=B71 L:=by kernel_rfl
theorem yB:Ok (yp ym):=sk c71 ⟨⟩
theorem c72:Kk L [(26,[zs 5 ti])] [] (zq N)=B72 L:=by kernel_rfl
theorem s72:Ok (zq zp):=sk c72 ⟨⟩
theorem M5P:Kk L [(15,[zs 3 ti]),(122,[zs 3 ti,zs 4 ti])] [] (sf N)=se L:=by kernel_rfl
theorem M5Q:Ok (sf jL):=sk M5P ⟨⟩
theorem M5R:Kk L [] [] (si N)=sg L:=by kernel_rfl
theorem M5S:Ok (si UU):=sk M5R ⟨⟩
theorem c73 {a b c d}:Kk L [(63,[.slot 5 (.own A9 60)]),(506,[.slot 5 (.own A9 60),zs 6 ti,zs 7 ti]),(32403,[zs 9 .str]),(259226,[zs 9 .str,zs 10 ti])] [sf a,si b,yj c,S65 d] (S73 N)=B73 L a b c d:=by kernel_rfl
theorem s73:Ok (S73 F73):=sk c73 ⟨M5Q,M5S,s64,s65,⟨⟩⟩
theorem c40 {a b c d e f g}:Kk L [(127,[]),(1018,[zs 8 ti]),(65170,[zs 9 ti]),(8186,[zs 12 ti,zc 0 5 (.sl A9),.cell 0 32 (.own Aj 177),zc 0 6 (.sl li)])] [(120,XV a),UT b,yl c,yp d,zq e,S73 f,qt g] (S40 N)=B40 L a b c d e f g:=by kernel_rfl
theorem s40:Ok (S40 F40):=sk c40 ⟨fP,fQ,s70,yB,s72,s73,xC,⟨⟩⟩
theorem c77:Kk L [(26,[zs 5 ti])] [] (yu N)=B77 L:=by kernel_rfl
theorem s77:Ok (yu yr):=sk c77 ⟨⟩
theorem c76 {a b}:Kk L [(58,[zs 5 ti])] [z7 a,yu b] (S76 N)=B76 L a b:=by kernel_rfl
theorem s76:Ok (S76 zt):=sk c76 ⟨s61,s77,⟨⟩⟩
theorem c41 {a b}:Kk L [(31,[]),(250,[zs 4 ti]),(64078,[zs 6 ti])] [S76 a,yu b] (S41 N)=B41 L a b:=by kernel_rfl
theorem s41:Ok (S41 F41):=sk c41 ⟨s76,s77,⟨⟩⟩
theorem c78 {a}:Kk L [(58,[zs 3 .bool,zs 4 ti])] [yl a] (S78 N)=B78 L a:=by kernel_rfl
theorem s78:Ok (S78 zx):=sk c78 ⟨s70,⟨⟩⟩
theorem c79 {a b}:Kk L [(58,[zs 3 .bool,zs 4 ti])] [yp a,zq b] (S79 N)=B79 L a b:=by kernel_rfl
theorem s79:Ok (S79 zz):=sk c79 ⟨yB,s72,⟨⟩⟩
theorem M5T {a}:Kk L [(26,[zs 6 ti])] [yu a] (so N)=zA L a:=by kernel_rfl
theorem M5U:Ok (so sn):=sk M5T ⟨s77,⟨⟩⟩
theorem c80 {a}:Kk L [] [so a] (S80 N)=B80 L a:=by kernel_rfl
theorem s80:Ok (S80 zC):=sk c80 ⟨M5U,⟨⟩⟩
theorem M5V:Kk L [(122,[zs 3 ti])] [] (su N)=sr L:=by kernel_rfl
theorem M5W:Ok (su jP):=sk M5V ⟨⟩
theorem M5X:Kk L [] [] (jQ N)=sv L:=by kernel_rfl
theorem M0w:Ok (jQ cX):=sk M5X ⟨⟩
theorem M5Y {a}:Kk L [(122,[zs 7 ti,zs 8 ti])] [jQ a] (sy N)=sw L a:=by kernel_rfl
theorem M5Z:Ok (sy jS):=sk M5Y ⟨M0w,⟨⟩⟩
theorem M60 {a b}:Kk L [(58,[zs 8 ti])] [jQ a,sy b] (sB N)=sA L a b:=by kernel_rfl
theorem M61:Ok (sB cY):=sk M60 ⟨M0w,M5Z,⟨⟩⟩
theorem M62:Kk L [] [] (cZ N)=sC L:=by kernel_rfl
theorem xL:Ok (cZ XX):=sk M62 ⟨⟩
theorem M63 {a}:Kk L [] [cZ a] (jU N)=sD L a:=by kernel_rfl
theorem M0x:Ok (jU d6):=sk M63 ⟨xL,⟨⟩⟩
theorem M64 {a b}:Kk L [(58,[zs 7 ti,zs 8 ti])] [cZ a,jU b] (jV N)=sE L a b:=by kernel_rfl
theorem M0y:Ok (jV XY):=sk M64 ⟨xL,M0x,⟨⟩⟩
theorem M65:Kk L [(28,[zs 0 ti,zs 3 ti])] [] (sG N)=sF L:=by kernel_rfl
theorem M66:Ok (sG d8):=sk M65 ⟨⟩
theorem M67 {a b c d}:Kk L [(31,[zs 6 ti,.ow 11 ti]),(250,[zs 6 ti,zs 7 ti,.ow 11 ti]),(16018,[zs 6 ti,zs 8 ti,.ow 11 ti])] [su a,sB b,jV c,sG d] (jX N)=sH L a b c d:=by kernel_rfl
theorem M0z:Ok (jX du):=sk M67 ⟨M5W,M61,M0y,M66,⟨⟩⟩
theorem M68 {a b c}:Kk L [(15,[zs 5 ti]),(122,[zs 5 ti,zs 6 ti]),(506,[zs 5 ti,zs 7 li,zs 8 ti]),(2025,[zs 5 ti,zs 7 li]),(16201,[zs 9 ti]),(64804,[zs 9 ti])] [jV a,cZ b,jU c] (sJ N)=sI L a b c:=by kernel_rfl
theorem M69:Ok (sJ jZ):=sk M68 ⟨M0y,xL,M0x,⟨⟩⟩
theorem M6a {a b}:Kk L [] [jX a,sJ b] (sM N)=sK L a b:=by kernel_rfl
theorem M6b:Ok (sM sL):=sk M6a ⟨M0z,M69,⟨⟩⟩
theorem c81 {a b}:Kk L [] [jX a,sM b] (S81 N)=B81 L a b:=by kernel_rfl
theorem s81:Ok (S81 zH):=sk c81 ⟨M0z,M6b,⟨⟩⟩
theorem c88:Kk L [(58,[zs 5 ti,zs 6 ti])] [] (S88 N)=B88 L:=by kernel_rfl
theorem s88:Ok (S88 zJ):=sk c88 ⟨⟩
theorem c82 {a}:Kk L [(7,[]),(58,[zs 13 ti]),(1865,[zs 14 ti]),(14922,[zs 14 ti,zs 15 ti]),(122,[zs 16 ti]),(3913,[zs 17 ti]),(31306,[zs 17 ti,zs 18 ti])] [S88 a] (S82 N)=B82 L a:=by kernel_rfl
theorem s82:Ok (S82 zL):=sk c82 ⟨s88,⟨⟩⟩
theorem c83:Kk L [] [] (S83 N)=B83 L:=by kernel_rfl
theorem s83:Ok (S83 yv):=sk c83 ⟨⟩
theorem c42 {a b c d e f}:Kk L [(31,[zs 3 .bool]),(250,[zs 3 .bool,zs 4 ti]),(511,[.cell 42 0 (.own Ai 157)]),(4090,[zs 7 ti,.cell 42 0 (.own Ai 157)]),(2047,[]),(16378,[zs 8 ti])] [S78 a,S79 b,S80 c,S81 d,S82 e,S83 f] (S42 N)=B42 L a b c d e f:=by kernel_rfl
theorem s42:Ok (S42 F42):=sk c42 ⟨s78,s79,s80,s81,s82,s83,⟨⟩⟩
theorem c43 {a b c d e f}:Kk L [(127,[]),(1018,[zs 7 ti]),(255,[]),(2042,[zs 9 ti]),(130706,[zs 10 ti]),(511,[.ow 50 ti]),(4090,[zs 11 ti,.ow 50 ti]),(1023,[zc 0 6 (.sl li),.cell 0 32 (.own Aj 177),zc 0 18 .bool]),(8186,[zs 12 ti,zc 0 18 .bool,.cell 0 32 (.own Aj 177),zc 0 6 (.sl li)])] [(120,XV a),UT b,S67 c,S68 d,yl e,qt f] (S43 N)=B43 L a b c d e f:=by kernel_rfl
theorem s43:Ok (S43 F43):=sk c43 ⟨fP,fQ,s67,s68,s70,xC,⟨⟩⟩
theorem M6c:Kk L [(26,[zs 5 ti])] [] (sO N)=zO L:=by kernel_rfl
theorem M6d:Ok (sO sN):=sk M6c ⟨⟩
theorem c85 {a b c d}:Kk L [(15,[.slot 11 (.own ti 3),.cell 3 0 (.own Ai 157)]),(122,[.slot 11 (.own ti 3),zs 12 ti,.cell 3 0 (.own Ai 157)]),(7827,[zs 15 .bool]),(62618,[zs 15 .bool,zs 16 ti]),(31,[.cell 3 1 (.own ti 3)]),(250,[zs 17 ti,.cell 3 1 (.own ti 3)]),(506,[zs 18 ti,.cell 3 2 (.own li 22)]),(16201,[.slot 19 (.own ti 3)]),(129610,[.slot 19 (.own ti 3),zs 20 ti])] [sO a,yp b,qt c,S80 d] (S85 N)=B85 L a b c d:=by kernel_rfl
theorem s85:Ok (S85 F85):=sk c85 ⟨M6d,yB,xC,s80,⟨⟩⟩
theorem M6e:Kk L [(7,[]),(58,[zs 3 ti]),(15,[]),(122,[zs 5 ti]),(15654,[zs 6 ti]),(63,[.ow 21 ti]),(506,[zs 8 ti,.ow 21 ti]),(32402,[zs 9 ti,.ow 21 ti]),(1018,[zs 11 ti])] [] (ke N)=sP L:=by kernel_rfl
theorem M0A:Ok (ke dw):=sk M6e ⟨⟩
theorem M6f:Kk L [(58,[zs 4 ti,.ow 5 (.pair ti ti)]),(3730,[zs 5 ti,.ow 5 (.pair ti ti)])] [] (kf N)=sQ L:=by kernel_rfl
theorem M0B:Ok (kf dA):=sk M6f ⟨⟩
theorem M6g:Kk L [] [] (dB N)=sR L:=by kernel_rfl
theorem xM:Ok (dB Y0):=sk M6g ⟨⟩
theorem M6h:Kk L [] [] (Y1 N)=sS L:=by kernel_rfl
theorem oO:Ok (Y1 UW):=sk M6h ⟨⟩
theorem M6i:Kk L [] [] (Y2 N)=sT L:=by kernel_rfl
theorem oP:Ok (Y2 UY):=sk M6i ⟨⟩
theorem M6j {a b c}:Kk L [] [dB a,Y1 b,Y2 c] (kg N)=sU L a b c:=by kernel_rfl
theorem M0C:Ok (kg Y3):=sk M6j ⟨xM,oO,oP,⟨⟩⟩
theorem M6k {a b}:Kk L [(58,[zs 8 ti])] [dB a,kg b] (kh N)=sV L a b:=by kernel_rfl
theorem M0D:Ok (kh dE):=sk M6k ⟨xM,M0C,⟨⟩⟩
theorem M6l {a b}:Kk L [(3,[]),(26,[zs 12 ti]),(58,[zs 13 ti])] [Y1 a,Y2 b] (sX N)=sW L a b:=by kernel_rfl
theorem M6m:Ok (sX kj):=sk M6l ⟨oO,oP,⟨⟩⟩
theorem c86 {a b c d}:Kk L [(63,[.ow 12 Ai,.ow 17 ti]),(506,[zs 7 ti,.ow 17 ti,.ow 12 Ai]),(127,[.ow 17 ti,.ow 12 Ai]),(1018,[zs 10 ti,zs 11 .bool,.ow 12 Ai,.ow 17 ti]),(130342,[zs 11 .bool,zs 12 ti,.ow 17 ti,.ow 12 Ai]),(4090,[.slot 15 (.own Ai 170),zs 16 ti])] [ke a,kf b,kh c,sX d] (S86 N)=B86 L a b c d:=by kernel_rfl
theorem s86:Ok (S86 F86):=sk c86 ⟨M0A,M0B,M0D,M6m,⟨⟩⟩
theorem M6n {a b c d}:Kk L [] [dB a,kg b,Y1 c,Y2 d] (sZ N)=sY L a b c d:=by kernel_rfl
theorem M6o:Ok (sZ ko):=sk M6n ⟨xM,M0C,oO,oP,⟨⟩⟩
theorem M6p {a b c d e}:Kk L [(15,[.ow 8 ti]),(122,[zs 7 ti,.ow 8 ti]),(31,[.ow 8 ti]),(250,[zs 8 ti,.ow 8 ti]),(63,[]),(506,[zs 10 ti]),(1018,[zs 11 ti]),(260686,[zs 14 ti])] [kf a,kh b,Y1 c,Y2 d,sZ e] (t7 N)=t6 L a b c d e:=by kernel_rfl
theorem M6q:Ok (t7 ku):=sk M6p ⟨M0B,M0D,oO,oP,M6o,⟨⟩⟩
theorem M6r:Kk L [(26,[zs 5 ti])] [] (ta N)=t8 L:=by kernel_rfl
theorem M6s:Ok (ta kx):=sk M6r ⟨⟩
theorem c87 {a b c}:Kk L [(250,[.slot 10 (.own ti 3),zs 11 ti,.cell 22 0 (.own Ai 157)]),(16018,[.slot 10 (.own ti 3),zs 12 ti,.cell 22 0 (.own Ai 157)])] [ke a,t7 b,ta c] (S87 N)=B87 L a b c:=by kernel_rfl
theorem s87:Ok (S87 F87):=sk c87 ⟨M0A,M6q,M6s,⟨⟩⟩
theorem c44 {a b c d e f g h i j k l m n}:Kk L [(127,[.cell 0 36 (.own Ai 170)]),(1018,[zs 7 ti,.cell 0 36 (.own Ai 170)]),(1023,[.slot 12 (.own ti 3)]),(8186,[.slot 12 (.own ti 3),zs 13 ti]),(4095,[.ow 90 li]),(32762,[zs 15 ti,.ow 90 li]),(8387146,[.slot 16 (.own ti 3),zs 17 ti]),(16383,[zs 18 .bool]),(131066,[zs 18 .bool,zs 19 ti]),(1048575,[zc 0 6 (.sl li),.cell 0 32 (.own Aj 177)]),(8388602,[zs 22 ti,.cell 0 32 (.own Aj 177),zc 0 6 (.sl li)])] [(120,XV a),UT b,S69 c,yp d,qt e,S78 f,S79 g,S81 h,S82 i,S83 j,S85 k,S86 l,S87 m,S88 n] (S44 N)=B44 L a b c d e f g h i j k l m n:=by kernel_rfl
theorem s44:Ok (S44 F44):=sk c44 ⟨fP,fQ,s69,yB,xC,s78,s79,s81,s82,s83,s85,s86,s87,s88,⟨⟩⟩
theorem c89:Kk L [(250,[.slot 10 (.own Aj 177),zs 11 ti])] [] (S89 N)=B89 L:=by kernel_rfl
theorem s89:Ok (S89 F89):=sk c89 ⟨⟩
theorem c45 {a b c d e f}:Kk L [(122,[zs 5 ti,.cell 0 32 (.own Aj 177),zc 0 6 (.sl li)])] [(120,XV a),UT b,yl c,zq d,qt e,S89 f] (S45 N)=B45 L a b c d e f:=by kernel_rfl
theorem s45:Ok (S45 F45):=sk c45 ⟨fP,fQ,s70,s72,xC,s89,⟨⟩⟩
theorem M6t {a b c}:Kk L [] [S33 a,yj b,S76 c] (te N)=tc L a b c:=by kernel_rfl
theorem M6u:Ok (te td):=sk M6t ⟨s33,s64,s76,⟨⟩⟩
theorem M6v {a}:Kk L [(58,[.slot 7 (.own ti 3),zs 8 ti])] [yu a] (th N)=tf L a:=by kernel_rfl
theorem M6w:Ok (th tg):=sk M6v ⟨s77,⟨⟩⟩
theorem M6x {a}:Kk L [(7,[zs 2 ti,zs 3 ti,zs 4 ti]),(58,[zs 2 ti,zs 3 ti,zs 4 ti,zs 7 ti])] [yj a] (tk N)=tj L a:=by kernel_rfl
theorem M6y:Ok (tk kC):=sk M6x ⟨s64,⟨⟩⟩
theorem M6z:Kk L [(26,[zs 5 ti])] [] (kD N)=tm L:=by kernel_rfl
theorem M0E:Ok (kD dG):=sk M6z ⟨⟩
theorem M6A:Kk L [] [] (tq N)=tn L:=by kernel_rfl
theorem M6B:Ok (tq tp):=sk M6A ⟨⟩
theorem M6C {a b c}:Kk L [(15,[]),(122,[zs 10 ti]),(31,[]),(250,[zs 11 ti]),(127,[zc 19 3 ti]),(1018,[zs 13 ti,zc 19 3 ti])] [tk a,kD b,tq c] (dH N)=tu L a b c:=by kernel_rfl
theorem xN:Ok (dH Y5):=sk M6C ⟨M6y,M0E,M6B,⟨⟩⟩
theorem M6D:Kk L [(58,[zs 8 ti,zs 9 .bool,zs 10 ti])] [] (tx N)=tv L:=by kernel_rfl
theorem M6E:Ok (tx tw):=sk M6D ⟨⟩
theorem M6F {a b}:Kk L [] [tx a,S63 b] (tB N)=tz L a b:=by kernel_rfl
theorem M6G:Ok (tB tA):=sk M6F ⟨M6E,s63,⟨⟩⟩
theorem M6H {a b}:Kk L [] [dH a,tB b] (tE N)=tC L a b:=by kernel_rfl
theorem M6I:Ok (tE tD):=sk M6H ⟨xN,M6G,⟨⟩⟩
theorem M6J:Kk L [] [] (tH N)=tF L:=by kernel_rfl
theorem M6K:Ok (tH tG):=sk M6J ⟨⟩
theorem M6L:Kk L [] [] (tK N)=tI L:=by kernel_rfl
theorem M6M:Ok (tK tJ):=sk M6L ⟨⟩
theorem M6N {a b}:Kk L [(58,[zs 13 .bool]),(1874,[zs 7 ti,zs 8 ti]),(3770,[zs 9 ti]),(60414,[zs 7 ti]),(483314,[zs 7 ti,zs 10 ti])] [tH a,tK b] (tM N)=tL L a b:=by kernel_rfl
theorem M6O:Ok (tM kL):=sk M6N ⟨M6K,M6M,⟨⟩⟩
theorem M6P {a b c}:Kk L [(7,[]),(3771,[zs 11 ti]),(30170,[zs 11 ti,zs 12 ti]),(122,[zs 13 ti])] [dH a,kD b,tM c] (tO N)=tN L a b c:=by kernel_rfl
theorem M6Q:Ok (tO kN):=sk M6P ⟨xN,M0E,M6O,⟨⟩⟩
theorem M6R {a b c}:Kk L [(122,[zs 12 ti])] [dH a,tO b,S62 c] (tR N)=tP L a b c:=by kernel_rfl
theorem M6S:Ok (tR tQ):=sk M6R ⟨xN,M6Q,s62,⟨⟩⟩
theorem M6T:Kk L [(26,[zs 5 ti])] [] (tV N)=tS L:=by kernel_rfl
theorem M6U:Ok (tV tU):=sk M6T ⟨⟩
theorem M6V:Kk L [(58,[zs 4 ti,zs 5 ti,zs 6 .bool,zs 7 ti])] [] (tY N)=tW L:=by kernel_rfl
theorem M6W:Ok (tY tX):=sk M6V ⟨⟩
theorem M6X {a b}:Kk L [(506,[.slot 6 (.own (.pair ti (.pair ti ti)) 282),zs 7 ti])] [tV a,tY b] (u4 N)=tZ L a b:=by kernel_rfl
theorem M6Y:Ok (u4 kS):=sk M6X ⟨M6U,M6W,⟨⟩⟩
theorem c90 {a b c d e}:Kk L [(127,[.slot 14 (.own ti 3)]),(1018,[.slot 14 (.own ti 3),zs 15 ti])] [te a,th b,tE c,tR d,u4 e] (S90 N)=B90 L a b c d e:=by kernel_rfl
theorem s90:Ok (S90 F90):=sk c90 ⟨M6u,M6w,M6I,M6S,M6Y,⟨⟩⟩
theorem c46 {a b c d}:Kk L [(58,[zs 3 ti]),(14927,[.slot 5 (.own A9 60)]),(119418,[.slot 5 (.own A9 60),zs 7 ti]),(238847,[zc 0 6 (.sl li),.cell 0 32 (.own Aj 177)]),(1910778,[zs 12 ti,.cell 0 32 (.own Aj 177),zc 0 6 (.sl li)])] [(120,XV a),UT b,qt c,S90 d] (S46 N)=B46 L a b c d:=by kernel_rfl
theorem s46:Ok (S46 F46):=sk c46 ⟨fP,fQ,xC,s90,⟨⟩⟩
theorem c21 {a b c d e f g h}:Kk L [(1776790389179704011653242,[.slot 3 (.own A3 80),zs 4 ti]),(16239037742967992478597242,[.slot 3 (.own A3 80),zs 4 ti]),(16534185648147345304453242,[.slot 3 (.own A3 80),zs 4 ti]),(16829333553326698130309242,[.slot 3 (.own A3 80),zs 4 ti]),(17124481458506050956165242,[.slot 3 (.own A3 80),zs 4 ti]),(17419629363685403782021242,[.slot 3 (.own A3 80),zs 4 ti]),(17714777268864756607877242,[.slot 3 (.own A3 80),zs 4 ti]),(18009925174044109433733242,[.slot 3 (.own A3 80),zs 4 ti]),(17567203316275080194949242,[.slot 3 (.own A3 80),zs 4 ti])] [S40 a,S41 b,S42 c,S43 d,S44 e,S45 f,S46 g,S69 h] (S21 N)=B21 L a b c d e f g h:=by kernel_rfl
theorem s21:Ok (S21 F21):=sk c21 ⟨s40,s41,s42,s43,s44,s45,s46,s69,⟨⟩⟩
theorem c6 {a b c d}:Kk L [(31,[.slot 9 (.own An 83),zc 0 0 li,zc 0 1 ti,zc 8 13 .bool,zc 8 12 ti,zc 8 11 li,zc 8 10 ti,zc 8 9 li,zc 8 8 li,zc 8 7 ti,zc 8 6 ti,zc 8 5 (.sl Ai),zc 8 4 li,zc 8 3 .bool,zc 8 2 (.sl A3),zc 8 1 (.sl li),zc 8 0 (.sl A9)]),(250,[.slot 9 (.own An 83),zs 10 ti,zc 8 0 (.sl A9),zc 8 1 (.sl li),zc 8 2 (.sl A3),zc 8 3 .bool,zc 8 4 li,zc 8 5 (.sl Ai),zc 8 6 ti,zc 8 7 ti,zc 8 8 li,zc 8 9 li,zc 8 10 ti,zc 8 11 li,zc 8 12 ti,zc 8 13 .bool,zc 0 1 ti,zc 0 0 li]),(506,[.slot 9 (.own An 83),zs 12 ti,zc 8 0 (.sl A9),zc 8 1 (.sl li),zc 8 2 (.sl A3),zc 8 3 .bool,zc 8 4 li,zc 8 5 (.sl Ai),zc 8 6 ti,zc 8 7 ti,zc 8 8 li,zc 8 9 li,zc 8 10 ti,zc 8 11 li,zc 8 12 ti,zc 8 13 .bool,zc 0 1 ti,zc 0 0 li])] [W3 a,S19 b,S20 c,S21 d] (S6 N)=B6 L a b c d:=by kernel_rfl
theorem s6:Ok (S6 F6):=sk c6 ⟨YX,s19,s20,s21,⟨⟩⟩
theorem c50:Kk L [(3,[]),(26,[zs 6 ti])] [] (S50 N)=B50 L:=by kernel_rfl
theorem s50:Ok (S50 yw):=sk c50 ⟨⟩
theorem M6Z:Kk L [(3,[]),(26,[zs 13 ti])] [] (u6 N)=u5 L:=by kernel_rfl
theorem M70:Ok (u6 kU):=sk M6Z ⟨⟩
theorem fR:Kk L [(26,[zs 8 ti])] [] (MH N)=MF L:=by kernel_rfl
theorem fS:Ok (MH MG):=sk fR ⟨⟩
theorem fT {a}:Kk L [] [MH a] (MJ N)=MI L a:=by kernel_rfl
theorem fU:Ok (MJ Il):=sk fT ⟨fS,⟨⟩⟩
theorem c51 {a b}:Kk L [(58,[zs 10 ti])] [u6 a,MJ b] (S51 N)=B51 L a b:=by kernel_rfl
theorem s51:Ok (S51 zS):=sk c51 ⟨M70,fU,⟨⟩⟩
theorem c52:Kk L [(26,[zs 7 ti])] [] (S52 N)=B52 L:=by kernel_rfl
theorem s52:Ok (S52 zU):=sk c52 ⟨⟩
theorem c24 {a b c}:Kk L [(15,[.ow 32 (.pair .str .bool)]),(122,[zs 41 ti,.ow 32 (.pair .str .bool)])] [S50 a,S51 b,S52 c] (yx N)=B24 L a b c:=by kernel_rfl
theorem yD:Ok (yx ua):=sk c24 ⟨s50,s51,s52,⟨⟩⟩
theorem c22 {a}:Kk L [] [yx a] (S22 N)=B22 L a:=by kernel_rfl
theorem s22:Ok (S22 F22):=sk c22 ⟨yD,⟨⟩⟩
theorem M71 {a}:Kk L [(7,[.slot 5 (.own ti 3)]),(58,[.slot 5 (.own ti 3),zs 17 ti])] [(181,uc a)] (V0 N)=ud L a:=by kernel_rfl
theorem fV:Ok (V0 Qv):=sk M71 ⟨M0t,⟨⟩⟩
theorem M72:Kk L [(26,[zs 8 ti])] [] (Y8 N)=zZ L:=by kernel_rfl
theorem oQ:Ok (Y8 Y7):=sk M72 ⟨⟩
theorem M73 {a}:Kk L [] [Y8 a] (l5 N)=ue L a:=by kernel_rfl
theorem M0F:Ok (l5 dK):=sk M73 ⟨oQ,⟨⟩⟩
theorem M74 {a b}:Kk L [(58,[zs 39 ti])] [l5 a,S50 b] (l6 N)=uf L a b:=by kernel_rfl
theorem M0G:Ok (l6 dM):=sk M74 ⟨M0F,s50,⟨⟩⟩
theorem M75:Kk L [(26,[zs 5 ti])] [] (uh N)=ug L:=by kernel_rfl
theorem M76:Ok (uh l8):=sk M75 ⟨⟩
theorem M77:Kk L [(58,[zs 3 ti,zs 4 ti])] [] (uj N)=ui L:=by kernel_rfl
theorem M78:Ok (uj lb):=sk M77 ⟨⟩
theorem M79 {a}:Kk L [] [uj a] (um N)=uk L a:=by kernel_rfl
theorem M7a:Ok (um ul):=sk M79 ⟨M78,⟨⟩⟩
theorem M7b {a b}:Kk L [] [uh a,um b] (ur N)=uo L a b:=by kernel_rfl
theorem M7c:Ok (ur uq):=sk M7b ⟨M76,M7a,⟨⟩⟩
theorem M7d {a}:Kk L [] [ur a] (uu N)=ut L a:=by kernel_rfl
theorem M7e:Ok (uu ll):=sk M7d ⟨M7c,⟨⟩⟩
theorem M7f:Kk L [(3,[]),(26,[zs 3 ti])] [] (uw N)=uv L:=by kernel_rfl
theorem M7g:Ok (uw dN):=sk M7f ⟨⟩
theorem M7h {a b}:Kk L [(31,[zs 5 ti])] [uu a,uw b] (uy N)=ux L a b:=by kernel_rfl
theorem M7i:Ok (uy lr):=sk M7h ⟨M7e,M7g,⟨⟩⟩
theorem c58 {a}:Kk L [(122,[zs 13 ti,.ow 4 (.pair .str .bool)])] [uy a] (S58 N)=B58 L a:=by kernel_rfl
theorem s58:Ok (S58 F58):=sk c58 ⟨M7i,⟨⟩⟩
theorem M7j {a}:Kk L [(7,[zs 2 ti,zs 3 ti,zs 4 ti]),(58,[zs 2 ti,zs 3 ti,zs 4 ti,zs 16 ti])] [S58 a] (lu N)=uz L a:=by kernel_rfl
theorem M0H:Ok (lu dP):=sk M7j ⟨s58,⟨⟩⟩
theorem M7k {a b c}:Kk L [] [l6 a,yx b,lu c] (uC N)=uA L a b c:=by kernel_rfl
theorem M7l:Ok (uC uB):=sk M7k ⟨M0G,yD,M0H,⟨⟩⟩
theorem M7m {a}:Kk L [(58,[.slot 7 (.own ti 3),zs 13 ti])] [Y8 a] (uF N)=uD L a:=by kernel_rfl
theorem M7n:Ok (uF uE):=sk M7m ⟨oQ,⟨⟩⟩
theorem M7o {a}:Kk L [(122,[zs 24 ti])] [uF a] (uI N)=uG L a:=by kernel_rfl
theorem M7p:Ok (uI uH):=sk M7o ⟨M7n,⟨⟩⟩
theorem M7q:Kk L [] [] (uL N)=uJ L:=by kernel_rfl
theorem M7r:Ok (uL uK):=sk M7q ⟨⟩
theorem M7s {a b}:Kk L [(31,[]),(250,[zs 34 ti]),(63,[.ow 17 .bool]),(506,[zs 48 ti,.ow 17 .bool]),(255,[zc 23 3 ti]),(2042,[zs 67 ti,zc 23 3 ti])] [lu a,uL b] (lA N)=uM L a b:=by kernel_rfl
theorem M0I:Ok (lA dR):=sk M7s ⟨M0H,M7r,⟨⟩⟩
theorem M7t:Kk L [(58,[zs 8 ti,zs 9 .bool,zs 14 ti])] [] (uP N)=uN L:=by kernel_rfl
theorem M7u:Ok (uP uO):=sk M7t ⟨⟩
theorem M7v {a b}:Kk L [] [uP a,S52 b] (uS N)=uQ L a b:=by kernel_rfl
theorem M7w:Ok (uS uR):=sk M7v ⟨M7u,s52,⟨⟩⟩
theorem M7x {a b}:Kk L [] [lA a,uS b] (uV N)=uT L a b:=by kernel_rfl
theorem M7y:Ok (uV uU):=sk M7x ⟨M0I,M7w,⟨⟩⟩
theorem fW:Kk L [(58,[zs 7 ti,zs 13 ti])] [] (MO N)=MM L:=by kernel_rfl
theorem fX:Ok (MO MN):=sk fW ⟨⟩
theorem fY:Kk L [(58,[zs 7 ti,zs 13 ti])] [] (MR N)=MP L:=by kernel_rfl
theorem fZ:Ok (MR MQ):=sk fY ⟨⟩
theorem g6:Kk L [(58,[zs 7 ti,zs 13 ti])] [] (MV N)=MT L:=by kernel_rfl
theorem g7:Ok (MV MU):=sk g6 ⟨⟩
theorem M7z:Kk L [(26,[zs 11 ti])] [] (uY N)=uW L:=by kernel_rfl
theorem M7A:Ok (uY uX):=sk M7z ⟨⟩
theorem g8 {a}:Kk L [(26,[zs 10 ti])] [uY a] (MY N)=MW L a:=by kernel_rfl
theorem g9:Ok (MY MX):=sk g8 ⟨M7A,⟨⟩⟩
theorem ga:Kk L [(26,[zs 10 ti])] [] (O1 N)=MZ L:=by kernel_rfl
theorem gc:Ok (O1 O0):=sk ga ⟨⟩
theorem gd:Kk L [(26,[zs 10 ti])] [] (O4 N)=O2 L:=by kernel_rfl
theorem gf:Ok (O4 O3):=sk gd ⟨⟩
theorem M7B:Kk L [(58,[zs 5 ti,zs 14 ti])] [] (ve N)=uZ L:=by kernel_rfl
theorem M7C:Ok (ve vb):=sk M7B ⟨⟩
theorem gg {a}:Kk L [(26,[zs 10 ti])] [ve a] (O7 N)=O5 L a:=by kernel_rfl
theorem gh:Ok (O7 O6):=sk gg ⟨M7C,⟨⟩⟩
theorem M7D {a}:Kk L [] [OS a] (O8 N)=vf L a:=by kernel_rfl
theorem QU:Ok (O8 JY):=sk M7D ⟨SP,⟨⟩⟩
theorem M7E {a}:Kk L [(15,[zs 6 ti]),(122,[zs 6 ti,zs 7 ti])] [O8 a] (vl N)=vg L a:=by kernel_rfl
theorem M7F:Ok (vl vj):=sk M7E ⟨QU,⟨⟩⟩
theorem M7G {a b c d e f g h}:Kk L [] [MO a,MR b,MV c,MY d,O1 e,O4 f,O7 g,vl h] (vo N)=vn L a b c d e f g h:=by kernel_rfl
theorem M7H:Ok (vo lI):=sk M7G ⟨fX,fZ,g7,g9,gc,gf,gh,M7F,⟨⟩⟩
theorem M7I {a b c}:Kk L [(506,[zs 33 ti])] [lA a,vo b,S51 c] (vr N)=vp L a b c:=by kernel_rfl
theorem M7J:Ok (vr vq):=sk M7I ⟨M0I,M7H,s51,⟨⟩⟩
theorem M7K:Kk L [(58,[zs 12 ti])] [] (vz N)=vt L:=by kernel_rfl
theorem M7L:Ok (vz vu):=sk M7K ⟨⟩
theorem M7M:Kk L [(122,[.slot 5 (.own (.pair ti (.pair ti ti)) 282),zs 6 li,zs 14 ti]),(31335,[.slot 9 (.own ti 3),zc 12 1 ti,zc 12 2 ti]),(250682,[.slot 9 (.own ti 3),zs 21 ti,zc 12 2 ti,zc 12 1 ti])] [] (vC N)=vA L:=by kernel_rfl
theorem M7N:Ok (vC vB):=sk M7M ⟨⟩
theorem M7O {a b}:Kk L [] [vz a,vC b] (vE N)=vD L a b:=by kernel_rfl
theorem M7P:Ok (vE lN):=sk M7O ⟨M7L,M7N,⟨⟩⟩
theorem M7Q {a b c d e f}:Kk L [(8191,[.ow 64 ti]),(65530,[zs 83 ti,.ow 64 ti])] [uC a,uI b,uV c,vr d,vE e,(27,S27 f)] (lO N)=vF L a b c d e f:=by kernel_rfl
theorem M0J:Ok (lO V2):=sk M7Q ⟨M7l,M7p,M7y,M7J,M7P,s27,⟨⟩⟩
theorem M7R {a b c}:Kk L [(7,[zs 3 ti]),(255,[.slot 5 (.own A9 60),.slot 6 (.own Aj 177)]),(2042,[.slot 5 (.own A9 60),.slot 6 (.own Aj 177),zs 45 ti]),(316638362025224453488650,[zs 8 ti])] [(111,ub a),V0 b,lO c] (vH N)=vG L a b c:=by kernel_rfl
theorem M7S:Ok (vH lQ):=sk M7R ⟨M0i,fV,M0J,⟨⟩⟩
theorem M7T:Kk L [(15,[zs 4 ti]),(122,[zs 4 ti,zs 5 ti])] [] (vJ N)=vI L:=by kernel_rfl
theorem M7U:Ok (vJ lT):=sk M7T ⟨⟩
theorem M7V:Kk L [] [] (lU N)=vK L:=by kernel_rfl
theorem M0K:Ok (lU Y9):=sk M7V ⟨⟩
theorem M7W {a}:Kk L [] [lU a] (lV N)=vL L a:=by kernel_rfl
theorem M0L:Ok (lV dV):=sk M7W ⟨M0K,⟨⟩⟩
theorem M7X {a b}:Kk L [(31,[.slot 5 (.own (.int .u8) 5),zs 6 .bool,zc 0 0 (.sl (.int .u8)),zc 0 1 ti]),(250,[.slot 5 (.own (.int .u8) 5),zs 6 .bool,zs 7 ti,zc 0 1 ti,zc 0 0 (.sl (.int .u8))])] [lV a,lU b] (vN N)=vM L a b:=by kernel_rfl
theorem M7Y:Ok (vN lX):=sk M7X ⟨M0L,M0K,⟨⟩⟩
theorem c60:Kk L [(58,[zs 3 ti,zs 8 ti])] [] (S60 N)=B60 L:=by kernel_rfl
theorem s60:Ok (S60 F60):=sk c60 ⟨⟩
theorem M7Z {a b c d e}:Kk L [(511,[.slot 7 (.own A9 60),zs 8 .bool,zc 21 0 (.sl (.int .u8)),zc 21 1 ti]),(4090,[.slot 7 (.own A9 60),zs 8 .bool,zs 9 ti,zc 21 1 ti,zc 21 0 (.sl (.int .u8))])] [vJ a,lV b,vN c,S58 d,S60 e] (lY N)=vO L a b c d e:=by kernel_rfl
theorem M0M:Ok (lY Sz):=sk M7Z ⟨M7U,M0L,M7Y,s58,s60,⟨⟩⟩
theorem gi:Kk L [(26,[zs 8 ti])] [] (Ob N)=O9 L:=by kernel_rfl
theorem gm:Ok (Ob Oa):=sk gi ⟨⟩
theorem gp {a}:Kk L [] [Ob a] (Od N)=Oc L a:=by kernel_rfl
theorem gq:Ok (Od Gu):=sk gp ⟨gm,⟨⟩⟩
theorem gt:Kk L [(132170921288128937328650,[zs 8 ti])] [] (Gv N)=SA L:=by kernel_rfl
theorem OD:Ok (Gv EA):=sk gt ⟨⟩
theorem c94 {a b c d e}:Kk L [(63,[]),(506,[zs 50 ti]),(129638,[zs 56 ti]),(2047,[.slot 12 (.own Aj 177)]),(16378,[.slot 12 (.own Aj 177),zs 98 ti])] [lY a,Od b,V0 c,O8 d,Gv e] (S94 N)=B94 L a b c d e:=by kernel_rfl
theorem s94:Ok (S94 F94):=sk c94 ⟨M0M,gq,fV,QU,OD,⟨⟩⟩
theorem gu {a}:Kk L [(26,[zs 8 ti])] [l5 a] (Og N)=Oe L a:=by kernel_rfl
theorem gx:Ok (Og Of):=sk gu ⟨M0F,⟨⟩⟩
theorem gy {a}:Kk L [] [Og a] (Oj N)=Oh L a:=by kernel_rfl
theorem gA:Ok (Oj Iy):=sk gy ⟨gx,⟨⟩⟩
theorem c91 {a}:Kk L [] [(137,M02 a)] (S91 N)=B91 L a:=by kernel_rfl
theorem s91:Ok (S91 yy):=sk c91 ⟨M5l,⟨⟩⟩
theorem c95 {a b c}:Kk L [(31,[]),(250,[zs 30 ti])] [l6 a,Oj b,S91 c] (S95 N)=B95 L a b c:=by kernel_rfl
theorem s95:Ok (S95 F95):=sk c95 ⟨M0G,gA,s91,⟨⟩⟩
theorem M81:Kk L [(3,[]),(26,[zs 18 ti])] [] (lZ N)=vQ L:=by kernel_rfl
theorem M0N:Ok (lZ dZ):=sk M81 ⟨⟩
theorem M82 {a b}:Kk L [(3,[]),(26,[zs 11 ti])] [O8 a,Gv b] (m8 N)=vR L a b:=by kernel_rfl
theorem M0O:Ok (m8 e9):=sk M82 ⟨QU,OD,⟨⟩⟩
theorem M83 {a}:Kk L [(26,[zs 12 ti])] [Y8 a] (eb N)=M04 L a:=by kernel_rfl
theorem xO:Ok (eb V3):=sk M83 ⟨oQ,⟨⟩⟩
theorem M84 {a}:Kk L [] [eb a] (m9 N)=vS L a:=by kernel_rfl
theorem M0P:Ok (m9 Yc):=sk M84 ⟨xO,⟨⟩⟩
theorem M85:Kk L [(122,[zs 16 ti])] [] (SB N)=ma L:=by kernel_rfl
theorem YF:Ok (SB Jt):=sk M85 ⟨⟩
theorem M86:Kk L [(60,[zs 0 ti,zs 4 ti])] [] (mb N)=vT L:=by kernel_rfl
theorem M0Q:Ok (mb ej):=sk M86 ⟨⟩
theorem M87:Kk L [] [] (mc N)=vU L:=by kernel_rfl
theorem M0R:Ok (mc eu):=sk M87 ⟨⟩
theorem M88:Kk L [(28,[zs 0 ti,zs 3 ti])] [] (md N)=vV L:=by kernel_rfl
theorem M0S:Ok (md Yd):=sk M88 ⟨⟩
theorem M89 {a b}:Kk L [(31,[zs 8 ti]),(63,[zs 8 ti]),(252,[zs 8 ti])] [mc a,md b] (me N)=vW L a b:=by kernel_rfl
theorem M0T:Ok (me Ye):=sk M89 ⟨M0R,M0S,⟨⟩⟩
theorem M8a {a}:Kk L [(7,[.ow 7 ti]),(58,[zs 21 ti,.ow 7 ti]),(1018,[.slot 4 (.own ti 3),.slot 5 (.own ti 3),zs 40 ti]),(65177,[.ow 23 ti]),(521418,[zs 47 ti,.ow 23 ti])] [me a] (mf N)=vX L a:=by kernel_rfl
theorem M0U:Ok (mf V4):=sk M8a ⟨M0T,⟨⟩⟩
theorem M8b {a b c d}:Kk L [(506,[zs 35 ti,zc 24 0 ti])] [SB a,mb b,mf c,(291,mg d)] (vZ N)=vY L a b c d:=by kernel_rfl
theorem M8c:Ok (vZ mj):=sk M8b ⟨YF,M0Q,M0U,xK,⟨⟩⟩
theorem M8d:Kk L [(3,[]),(122,[zs 3 ti,zs 4 ti])] [] (w6 N)=w5 L:=by kernel_rfl
theorem M8e:Ok (w6 mn):=sk M8d ⟨⟩
theorem M8f {a b c d e}:Kk L [(511,[.slot 10 (.own ti 3)]),(2044,[zs 9 ti,.slot 10 (.own ti 3)]),(130834,[zs 9 ti,zs 46 ti]),(176599904389658392395778,[zs 2 ti,zs 3 ti,.ow 35 ti])] [OS a,SB b,mf c,(291,mg d),w6 e] (w8 N)=w7 L a b c d e:=by kernel_rfl
theorem M8g:Ok (w8 mq):=sk M8f ⟨SP,YF,M0U,xK,M8e,⟨⟩⟩
theorem M8h {a b}:Kk L [] [vZ a,w8 b] (mr N)=w9 L a b:=by kernel_rfl
theorem M0V:Ok (mr JZ):=sk M8h ⟨M8c,M8g,⟨⟩⟩
theorem gB:Kk L [(7,[]),(58,[zs 31 ti]),(7475,[zs 10 ti]),(59802,[zs 10 ti,zs 37 ti]),(122,[zs 81 ti]),(15667,[zs 15 ti]),(125338,[zs 15 ti,zs 89 ti]),(31335,[zs 15 ti]),(250682,[zs 15 ti,zs 112 ti])] [] (Om N)=Ol L:=by kernel_rfl
theorem gD:Ok (Om IA):=sk gB ⟨⟩
theorem c93 {a}:Kk L [] [(26,qv a)] (S93 N)=B93 L a:=by kernel_rfl
theorem s93:Ok (S93 wa):=sk c93 ⟨oE,⟨⟩⟩
theorem gE {a b c d}:Kk L [] [mr a,Om b,(26,qv c),S93 d] (Oo N)=On L a b c d:=by kernel_rfl
theorem gF:Ok (Oo IC):=sk gE ⟨M0V,gD,oE,s93,⟨⟩⟩
theorem c96 {a b c d e f}:Kk L [(31,[]),(250,[zs 39 ti]),(255,[.cell 41 0 (.own Ai 157)]),(2042,[zs 75 ti,.cell 41 0 (.own Ai 157)]),(1023,[]),(8186,[zs 103 ti])] [lZ a,m8 b,m9 c,eb d,Oo e,(26,qv f)] (S96 N)=B96 L a b c d e f:=by kernel_rfl
theorem s96:Ok (S96 F96):=sk c96 ⟨M0N,M0O,M0P,xO,gF,oE,⟨⟩⟩
theorem M8j:Kk L [] [] (wb N)=mw L:=by kernel_rfl
theorem M8k:Ok (wb eC):=sk M8j ⟨⟩
theorem M8l {a b}:Kk L [(15,[]),(122,[zs 7 ti])] [eb a,OS b] (we N)=wd L a b:=by kernel_rfl
theorem M8m:Ok (we mz):=sk M8l ⟨xO,SP,⟨⟩⟩
theorem c97 {a b c}:Kk L [(2047,[zs 8 .bool,.slot 9 (.own Aj 177)]),(16378,[zs 8 .bool,.slot 9 (.own Aj 177),zs 56 ti]),(3110637559661494269902906,[zs 31 ti]),(6221275119322988539805818,[zs 58 ti,.ow 44 (.pair ti ti)]),(12442550238645977079611642,[zs 82 ti])] [V0 a,wb b,we c] (S97 N)=B97 L a b c:=by kernel_rfl
theorem s97:Ok (S97 F97):=sk c97 ⟨fV,M8k,M8m,⟨⟩⟩
theorem M8n {a b c}:Kk L [(15,[.cell 1 1 (.own ti 3)]),(122,[zs 29 ti,.cell 1 1 (.own ti 3)]),(31,[.cell 2 0 (.own ti 3)]),(250,[zs 44 ti,.cell 2 0 (.own ti 3)]),(64102,[zs 51 ti,.cell 2 0 (.own ti 3)]),(255,[.cell 1 0 (.own Ai 157)]),(2042,[zs 80 ti,.cell 1 0 (.own Ai 157)]),(4090,[zs 100 ti,.cell 1 2 (.own li 22)]),(523571,[.slot 17 (.own ti 3)]),(4188570,[.slot 17 (.own ti 3),zs 106 ti])] [m9 a,O8 b,OS c] (wi N)=wh L a b c:=by kernel_rfl
theorem M8o:Ok (wi mB):=sk M8n ⟨M0P,QU,SP,⟨⟩⟩
theorem M8p:Kk L [(31,[zs 6 ti,.ow 11 .bool,.ow 6 (.pair ti ti)]),(250,[zs 6 ti,zs 22 ti,.ow 6 (.pair ti ti),.ow 11 .bool]),(64102,[zs 6 ti,zs 29 ti,.ow 11 .bool,.ow 6 (.pair ti ti)])] [] (eD N)=wj L:=by kernel_rfl
theorem xP:Ok (eD K0):=sk M8p ⟨⟩
theorem M8q {a b}:Kk L [(7,[]),(58,[zs 28 ti]),(15,[]),(122,[zs 54 ti])] [O8 a,eD b] (mC N)=wk L a b:=by kernel_rfl
theorem M0W:Ok (mC V5):=sk M8q ⟨QU,xP,⟨⟩⟩
theorem M8r:Kk L [(122,[zs 25 ti]),(31334,[zs 35 ti])] [] (wn N)=wm L:=by kernel_rfl
theorem M8s:Ok (wn mE):=sk M8r ⟨⟩
theorem M8t {a b c}:Kk L [(250,[.slot 5 (.own Ai 170),zs 6 ti,zc 17 2 (.sl li),zc 17 1 li,zc 17 0 (.sl Ai),zc 17 3 (.sl (.pair ti ti)),.cell 17 4 (.own ti 3)]),(32010,[.slot 5 (.own Ai 170),zs 25 ti,.cell 17 4 (.own ti 3),zc 17 3 (.sl (.pair ti ti)),zc 17 0 (.sl Ai),zc 17 1 li,zc 17 2 (.sl li)]),(8003,[.ow 50 ti]),(64026,[zs 53 ti,.ow 50 ti]),(680463495390997940011066,[zs 25 ti,.ow 15 ti])] [mC a,wn b,eD c] (wo N)=mG L a b c:=by kernel_rfl
theorem M8u:Ok (wo Oq):=sk M8t ⟨M0W,M8s,xP,⟨⟩⟩
theorem M8v {a}:Kk L [(7,[.ow 11 ti]),(58,[zs 18 ti,.ow 11 ti]),(15,[]),(122,[zs 61 ti]),(250,[zs 82 ti]),(128206,[zs 92 ti]),(385315590211645114155066,[zs 25 ti,.ow 11 ti])] [eD a] (wu N)=wq L a:=by kernel_rfl
theorem M8w:Ok (wu mI):=sk M8v ⟨xP,⟨⟩⟩
theorem M8x {a b}:Kk L [] [mC a,wu b] (wv N)=mK L a b:=by kernel_rfl
theorem M8y:Ok (wv Yk):=sk M8x ⟨M0W,M8w,⟨⟩⟩
theorem M8z:Kk L [(7,[zs 3 ti]),(58,[zs 3 ti,zs 11 ti]),(250,[.slot 6 (.own ti 3),zs 27 ti])] [] (wy N)=wx L:=by kernel_rfl
theorem M8A:Ok (wy mM):=sk M8z ⟨⟩
theorem M8B {a b c d}:Kk L [(63,[.cell 32 0 (.own Ai 157)]),(506,[zs 47 ti,.cell 32 0 (.own Ai 157)])] [wv a,wy b,(228,M06 c),SB d] (mP N)=mO L a b c d:=by kernel_rfl
theorem M0X:Ok (mP OT):=sk M8B ⟨M8y,M8A,M5u,YF,⟨⟩⟩
theorem gG {a}:Kk L [(7,[]),(58,[zs 31 ti]),(7475,[zs 10 ti]),(59802,[zs 10 ti,zs 37 ti]),(122,[zs 81 ti]),(15667,[zs 15 ti]),(125338,[zs 15 ti,zs 89 ti]),(31335,[zs 15 ti]),(250682,[zs 15 ti,zs 112 ti])] [O8 a] (Ou N)=Ot L a:=by kernel_rfl
theorem gH:Ok (Ou IE):=sk gG ⟨QU,⟨⟩⟩
theorem gI {a b c d}:Kk L [] [mr a,Ou b,(26,qv c),S93 d] (Ow N)=Ov L a b c d:=by kernel_rfl
theorem gJ:Ok (Ow IG):=sk gI ⟨M0V,gH,oE,s93,⟨⟩⟩
theorem M8C {a b c d}:Kk L [(7,[]),(58,[zs 32 ti]),(14950,[zs 45 ti]),(127,[.slot 13 (.own Aj 177)]),(1018,[.slot 13 (.own Aj 177),zs 82 ti]),(857109516640840606285850,[zs 5 ti,zs 10 ti])] [V0 a,Ow b,O8 c,kY d] (wB N)=wA L a b c d:=by kernel_rfl
theorem M8D:Ok (wB mR):=sk M8C ⟨fV,gJ,QU,oJ,⟨⟩⟩
theorem c98 {a b c d e f}:Kk L [(4095,[.cell 0 36 (.own Ai 170)]),(32762,[zs 74 ti,.cell 0 36 (.own Ai 170)]),(16383,[.slot 13 (.own ti 3)]),(131066,[.slot 13 (.own ti 3),zs 108 ti])] [lZ a,m8 b,wi c,wo d,mP e,wB f] (S98 N)=B98 L a b c d e f:=by kernel_rfl
theorem s98:Ok (S98 F98):=sk c98 ⟨M0N,M0O,M8o,M8u,M0X,M8D,⟨⟩⟩
theorem M8E:Kk L [(506,[.slot 11 (.own Aj 177),zs 56 ti])] [] (mS N)=wC L:=by kernel_rfl
theorem M0Y:Ok (mS V6):=sk M8E ⟨⟩
theorem c99 {a b c}:Kk L [] [V0 a,mS b,Gv c] (S99 N)=B99 L a b c:=by kernel_rfl
theorem s99:Ok (S99 F99):=sk c99 ⟨fV,M0Y,OD,⟨⟩⟩
theorem c49 {a b c d e f g}:Kk L [] [vH a,S94 b,S95 c,S96 d,S97 e,S98 f,S99 g] (S49 N)=B49 L a b c d e f g:=by kernel_rfl
theorem s49:Ok (S49 F49):=sk c49 ⟨M7S,s94,s95,s96,s97,s98,s99,⟨⟩⟩
theorem c23 {a b c d e f}:Kk L [(2073266459932363925225594,[zs 19 ti,.cell 17 1 (.own li 22)]),(4146532919864727850451194,[zs 34 ti,.cell 17 2 (.own A3 80)]),(15797644050772270327529594,[zs 19 ti,.cell 110 1 (.own li 22)]),(31595288101544540655059194,[zs 34 ti,.cell 110 2 (.own A3 80)])] [(26,qv a),(27,S27 b),S49 c,S91 d,(92,S92 e),S93 f] (S23 N)=B23 L a b c d e f:=by kernel_rfl
theorem s23:Ok (S23 F23):=sk c23 ⟨oE,s27,s49,s91,s92,s93,⟨⟩⟩
theorem c7 {a b}:Kk L [(250,[.slot 9 (.own AP 94),zs 24 ti,zc 9 0 (.sl A9),zc 9 1 (.sl li),zc 9 2 (.sl A3),zc 9 3 .bool,zc 9 4 li,zc 9 5 (.sl Ai),zc 9 6 ti,zc 9 7 ti,zc 9 8 li,zc 9 9 li,zc 9 10 ti,zc 9 11 li,zc 9 12 ti,zc 9 13 .bool])] [S22 a,S23 b] (S7 N)=B7 L a b:=by kernel_rfl
theorem s7:Ok (S7 F7):=sk c7 ⟨s22,s23,⟨⟩⟩
theorem M8F:Kk L [] [] (wE N)=wD L:=by kernel_rfl
theorem M8G:Ok (wE mU):=sk M8F ⟨⟩
theorem M8H:Kk L [] [] (eH N)=wF L:=by kernel_rfl
theorem xQ:Ok (eH V7):=sk M8H ⟨⟩
theorem M8I {a}:Kk L [(26,[zs 14 ti])] [Y8 a] (mV N)=M07 L a:=by kernel_rfl
theorem M0Z:Ok (mV Yn):=sk M8I ⟨oQ,⟨⟩⟩
theorem M8J {a b}:Kk L [(63,[]),(506,[zs 10 ti])] [OS a,mV b] (wH N)=wG L a b:=by kernel_rfl
theorem M8K:Ok (wH eK):=sk M8J ⟨SP,M0Z,⟨⟩⟩
theorem gK:Kk L [(26,[zs 8 ti])] [] (Ox N)=SC L:=by kernel_rfl
theorem gL:Ok (Ox II):=sk gK ⟨⟩
theorem M8L {a b c d}:Kk L [(122,[.slot 4 (.own Aj 177),zs 5 .bool,zs 39 ti,zc 0 9 li,zc 0 10 (.sl Ai),zc 0 11 ti,zc 0 12 ti,zc 0 13 li,zc 0 14 li,zc 0 15 ti,zc 0 16 li,zc 0 17 ti,zc 0 8 .bool,.cell 0 7 (.own A3 80),zc 0 6 (.sl li),.cell 0 5 (.own A9 60),zc 0 0 (.sl (.pair .str ti)),zc 0 1 (.sl BW),zc 0 2 (.sl (.pair ti (.pair ti ti))),zc 0 3 ti,zc 0 4 ti])] [wE a,eH b,wH c,Ox d] (mX N)=wI L a b c d:=by kernel_rfl
theorem M10:Ok (mX V8):=sk M8L ⟨M8G,xQ,M8K,gL,⟨⟩⟩
theorem M8M {a}:Kk L [] [lY a] (eM N)=mY L a:=by kernel_rfl
theorem xR:Ok (eM Oy):=sk M8M ⟨M0M,⟨⟩⟩
theorem M8N {a b}:Kk L [(63,[.slot 10 (.own ti 3)]),(506,[.slot 10 (.own ti 3),zs 38 ti])] [eM a,(181,uc b)] (mZ N)=wJ L a b:=by kernel_rfl
theorem M11:Ok (mZ SD):=sk M8N ⟨xR,M0t,⟨⟩⟩
theorem M8O:Kk L [(58,[zs 13 ti])] [] (Yp N)=wK L:=by kernel_rfl
theorem oR:Ok (Yp SE):=sk M8O ⟨⟩
theorem M8P {a b c}:Kk L [(7,[.slot 7 (.own Aj 177)]),(1878,[.slot 7 (.own Aj 177),zs 23 ti])] [eM a,mS b,Yp c] (wM N)=wL L a b c:=by kernel_rfl
theorem M8Q:Ok (wM eO):=sk M8P ⟨xR,M0Y,oR,⟨⟩⟩
theorem M8R:Kk L [(58,[zs 13 ti])] [] (wO N)=wN L:=by kernel_rfl
theorem M8S:Ok (wO n9):=sk M8R ⟨⟩
theorem M8T:Kk L [(58,[zs 13 ti])] [] (wQ N)=wP L:=by kernel_rfl
theorem M8U:Ok (wQ nf):=sk M8T ⟨⟩
theorem M8V {a b c d e}:Kk L [(127,[.slot 8 (.own Aj 177),.slot 9 (.own A9 60),zc 0 9 li,zc 0 10 (.sl Ai),zc 0 11 ti,zc 0 12 ti,zc 0 13 li,zc 0 14 li,zc 0 15 ti,zc 0 16 li,zc 0 17 ti,zc 0 8 .bool,.cell 0 7 (.own A3 80),zc 0 6 (.sl li),.cell 0 5 (.own A9 60),zc 0 0 (.sl (.pair .str ti)),zc 0 1 (.sl BW),zc 0 2 (.sl (.pair ti (.pair ti ti))),zc 0 3 ti,zc 0 4 ti]),(1018,[.slot 8 (.own Aj 177),.slot 9 (.own A9 60),zs 37 ti]),(427318826467481763184650,[zs 8 ti])] [lO a,Yp b,eH c,wO d,wQ e] (wR N)=nh L a b c d e:=by kernel_rfl
theorem M8W:Ok (wR Va):=sk M8V ⟨M0J,oR,xQ,M8S,M8U,⟨⟩⟩
theorem M8X {a}:Kk L [(58,[.slot 6 (.own Ai 157),zs 13 ti,zc 0 9 li,zc 0 10 (.sl Ai),zc 0 11 ti,zc 0 12 ti,zc 0 13 li,zc 0 14 li,zc 0 15 ti,zc 0 16 li,zc 0 17 ti,zc 0 8 .bool,.cell 0 7 (.own A3 80),zc 0 6 (.sl li),.cell 0 5 (.own A9 60),zc 0 0 (.sl (.pair .str ti)),zc 0 1 (.sl BW),zc 0 2 (.sl (.pair ti (.pair ti ti))),zc 0 3 ti,zc 0 4 ti])] [mV a] (ni N)=wS L a:=by kernel_rfl
theorem M12:Ok (ni eQ):=sk M8X ⟨M0Z,⟨⟩⟩
theorem M8Y {a b c}:Kk L [(15,[.cell 6 1 (.own ti 3)]),(122,[zs 26 ti,.cell 6 1 (.own ti 3)]),(31,[.slot 6 (.own ti 3)]),(250,[.slot 6 (.own ti 3),zs 43 ti]),(64102,[.slot 6 (.own ti 3),zs 50 ti]),(4090,[zs 94 ti,.cell 6 2 (.own li 22)]),(523571,[.slot 17 (.own ti 3)]),(4188570,[.slot 17 (.own ti 3),zs 100 ti])] [O8 a,OS b,ni c] (wU N)=wT L a b c:=by kernel_rfl
theorem M8Z:Ok (wU nk):=sk M8Y ⟨QU,SP,M12,⟨⟩⟩
theorem M90 {a b c d e f}:Kk L [(63,[.slot 10 (.own Ai 170)]),(506,[.slot 10 (.own Ai 170),zs 35 ti]),(1023,[.slot 16 (.own Aj 177)]),(8186,[.slot 16 (.own Aj 177),zs 82 ti])] [mP a,Yp b,O8 c,OS d,kY e,wU f] (wV N)=eR L a b c d e f:=by kernel_rfl
theorem M91:Ok (wV Qx):=sk M90 ⟨M0X,oR,QU,SP,oJ,M8Z,⟨⟩⟩
theorem M92 {a b}:Kk L [(3306,[.slot 8 (.own ti 3),zs 33 ti])] [eH a,(26,qv b)] (np N)=eU L a b:=by kernel_rfl
theorem M13:Ok (np Ju):=sk M92 ⟨xQ,oE,⟨⟩⟩
theorem M93 {a b}:Kk L [] [mc a,md b] (wX N)=wW L a b:=by kernel_rfl
theorem M94:Ok (wX eV):=sk M93 ⟨M0R,M0S,⟨⟩⟩
theorem M95 {a b}:Kk L [(122,[zs 33 ti])] [SB a,wX b] (wZ N)=wY L a b:=by kernel_rfl
theorem M96:Ok (wZ ns):=sk M95 ⟨YF,M94,⟨⟩⟩
theorem M97:Kk L [] [] (x5 N)=x4 L:=by kernel_rfl
theorem M98:Ok (x5 nv):=sk M97 ⟨⟩
theorem M99 {a b}:Kk L [] [SB a,x5 b] (x7 N)=x6 L a b:=by kernel_rfl
theorem M9a:Ok (x7 nz):=sk M99 ⟨YF,M98,⟨⟩⟩
theorem M9b {a b c}:Kk L [(15,[]),(122,[zs 24 ti]),(506,[zs 10 ti,zs 59 ti])] [SB a,(291,mg b),me c] (x9 N)=x8 L a b c:=by kernel_rfl
theorem M9c:Ok (x9 nB):=sk M9b ⟨YF,xK,M0T,⟨⟩⟩
theorem M9d {a b c d}:Kk L [(7,[]),(58,[zs 24 ti]),(14950,[zs 30 ti])] [wZ a,x7 b,x9 c,mb d] (xb N)=xa L a b c d:=by kernel_rfl
theorem M9e:Ok (xb Yq):=sk M9d ⟨M96,M9a,M9c,M0Q,⟨⟩⟩
theorem M9f {a b c}:Kk L [] [np a,ni b,xb c] (xc N)=nE L a b c:=by kernel_rfl
theorem M9g:Ok (xc Vb):=sk M9f ⟨M13,M12,M9e,⟨⟩⟩
theorem c54 {a b c d e f g}:Kk L [] [mX a,mZ b,wM c,wR d,wV e,xc f,Yp g] (S54 N)=B54 L a b c d e f g:=by kernel_rfl
theorem s54:Ok (S54 iA):=sk c54 ⟨M10,M11,M8Q,M8W,M91,M9g,oR,⟨⟩⟩
theorem c55 {a b c d e}:Kk L [(127,[.cell 0 7 (.own A3 80),zc 0 8 .bool,zc 0 17 ti]),(1552570214963764411760650,[zs 8 ti])] [mX a,np b,mZ c,eM d,(111,ub e)] (S55 N)=B55 L a b c d e:=by kernel_rfl
theorem s55:Ok (S55 qy):=sk c55 ⟨M10,M13,M11,xR,M0i,⟨⟩⟩
theorem c8 {a b c}:Kk L [(665042017345376754860058,[zs 19 ti,zc 33 9 li,zc 33 10 (.sl Ai),zc 33 11 ti,zc 33 12 ti,zc 33 13 li,zc 33 14 li,zc 33 15 ti,zc 33 16 li,zc 33 17 ti,zc 33 8 .bool,.cell 33 7 (.own A3 80),zc 33 6 (.sl li),.cell 33 5 (.own A9 60),zc 33 0 (.sl (.pair .str ti)),zc 33 1 (.sl BW),zc 33 2 (.sl (.pair ti (.pair ti ti))),zc 33 3 ti,zc 33 4 ti])] [yx a,S54 b,S55 c] (S8 N)=B8 L a b c:=by kernel_rfl
theorem s8:Ok (S8 F8):=sk c8 ⟨yD,s54,s55,⟨⟩⟩
theorem c9 {a b c d e}:Kk L [(31,[.slot 11 (.own li 22)]),(250,[.slot 11 (.own li 22),zs 30 ti]),(665042017345376754860058,[zs 19 ti,zc 33 9 li,zc 33 10 (.sl Ai),zc 33 11 ti,zc 33 12 ti,zc 33 13 li,zc 33 14 li,zc 33 15 ti,zc 33 16 li,zc 33 17 ti,zc 33 8 .bool,.cell 33 7 (.own A3 80),zc 33 6 (.sl li),.cell 33 5 (.own A9 60),zc 33 0 (.sl (.pair .str ti)),zc 33 1 (.sl BW),zc 33 2 (.sl (.pair ti (.pair ti ti))),zc 33 3 ti,zc 33 4 ti])] [yx a,(26,qv b),(27,S27 c),S54 d,S55 e] (S9 N)=B9 L a b c d e:=by kernel_rfl
theorem s9:Ok (S9 F9):=sk c9 ⟨yD,oE,s27,s54,s55,⟨⟩⟩
theorem c3 {a b c d e f g h i}:Kk L [(1023,[.slot 13 (.own ti 3)]),(8186,[.slot 13 (.own ti 3),zs 14 ti])] [S10 a,S11 b,S12 c,(13,S13 d),S5 e,S6 f,S7 g,S8 h,S9 i] (S3 N)=B3 L a b c d e f g h i:=by kernel_rfl
theorem s3:Ok (S3 F3):=sk c3 ⟨s10,s11,s12,s13,s5,s6,s7,s8,s9,⟨⟩⟩
end
end Go.T
